/- A part of the proof: what the functions that the law calls answer, as pure values. -/
import Derived.Test.YtjjjnhpghhamkaaGreatK0b4971d90635
import Derived.Test.YtjjjnhpghhamkaaGreatK10b93bd4055a
import Derived.Test.YtjjjnhpghhamkaaGreatK18035e4d7b27
import Derived.Test.YtjjjnhpghhamkaaGreatK6a36b954c5f2
import Derived.Test.YtjjjnhpghhamkaaGreatK7f21fb795bd2
import Derived.Test.YtjjjnhpghhamkaaGreatKd12cb08badc5
set_option linter.unusedSimpArgs false
set_option linter.unusedVariables false
set_option maxRecDepth 100000
set_option maxHeartbeats 4000000
namespace Go.Abs
open Go.Proofs
def m_laws_toBind_AC (fuel : Nat) : Prop := ∀ (x1 : Bind) (r : Bind), m_laws_toBind fuel x1 = some r → AC Tryz.prog 95 [.ag [.t (.sc (.str x1.name)), .t (.sl (x1.scopes.map rI)), .t (.sc (.int .i64 x1.id))]] noOb (.ag [.t (.sc (.str r.name)), .t (.sl (r.scopes.map rI)), .t (.sc (.int .i64 r.id))]) noOb
theorem m_laws_toBind_ok (fuel : Nat) : m_laws_toBind_AC fuel := by
 intro x1 r hF0
 unfold m_laws_toBind at hF0
 refine AC_i [.ag [.t (.sc (.str r.name)), .t (.sl (r.scopes.map rI)), .t (.sc (.int .i64 r.id))]] Tryz.func95 rfl Tryz.ntmps95 ?_
 intro C hC
 refine awp_seq (awp_region ?_)
 refine s_box ?_
 refine s_alloc yZ93 ?_
 refine k_nil (k_seq (awp_seq (awp_region ?_)))
 refine s_alloc yZ93 ?_
 refine k_nil (k_seq (awp_seq (awp_region ?_)))
 refine s_fa yF119_0 ?_
 refine s_ld1 yA9 ?_
 refine s_fa yF93_0 ?_
 refine s_stP yS9 ?_
 refine k_nil (k_seq (awp_seq (awp_region ?_)))
 refine s_fa yF119_1 ?_
 refine s_ld1 yA24 ?_
 obtain ⟨v1, hv1, hF1⟩ := bind_some' hF0
 refine s_pure [] (m_laws_toIntS_ok fuel _ _ hv1) ?_
 refine s_fa yF93_1 ?_
 refine s_stP yS24 ?_
 refine k_nil (k_seq (awp_seq (awp_region ?_)))
 refine s_fa yF119_2 ?_
 refine s_ld1 yA3 ?_
 refine s_fa yF93_2 ?_
 refine s_stP yS3 ?_
 refine k_nil (k_seq (awp_seq (awp_region ?_)))
 refine s_ldW yA93 yS93 ?_
 refine s_stW yS93 ?_
 refine k_nil (k_seq (awp_ret (k_fin ?_)))
 cases hF1
 exact ends_gen [] [] (by rw [Tryz.results95]; exact (res_agg (by conv => lhs; whnf) (by conv => lhs; whnf) yA93 yS93 rfl res_nil))
def m_laws_toBindS_AC (fuel : Nat) : Prop := ∀ (x1 : (List Bind)) (r : (List Bind)), m_laws_toBindS fuel x1 = some r → AC Tryz.prog 34 [.t (.sl (x1.map Bind.row))] noOb (.t (.sl (r.map Bind.row))) noOb
theorem m_laws_toBindS_ok (fuel : Nat) : m_laws_toBindS_AC fuel := by
 intro x1 r hF0
 unfold m_laws_toBindS at hF0
 refine AC_i [.t (.sl (r.map Bind.row))] Tryz.func34 rfl Tryz.ntmps34 ?_
 intro C hC
 refine awp_seq (awp_region ?_)
 refine s_as ?_
 refine k_nil (k_seq (awp_seq (awp_region ?_)))
 refine s_mv ?_
 refine s_lenT yU50 ?_
 obtain ⟨hk1, hF1⟩ := chk_some hF0
 refine s_mk Bind.row (Bind.mk (⟨#[]⟩ : ByteArray) ([] : List Int) 0) (Bind.row_eq _) hk1 yP23 yR93 ?_
 refine s_as ?_
 refine k_nil (k_seq (awp_seq (awp_seq (awp_region ?_))))
 refine s_as ?_
 refine k_nil (k_seq (awp_block ?_))
 refine awp_fr (β := Int × (List Bind)) [4, 8, 9, 10, 11, 12, 13, 14, 15, 16, 17, 18, 19, 20, 21] [7] [] (fun a => [(4, .t (.sc (.int .i64 a.2.1)))]) (fun a => [(7, .arr (a.2.2.map Bind.row) 93 true)]) (fun a => a.1 ≤ fuel ∧ m_laws_toBindS_l1 a.1 x1 a.2.1 a.2.2 = some r ∧ 0 ≤ a.2.1) (fuel, 0, (List.replicate (x1.length : Int).toNat (Bind.mk (⟨#[]⟩ : ByteArray) ([] : List Int) 0))) ⟨Nat.le_refl _, hF1, by simp⟩ ?_
 clear hF1
 rintro ⟨fu, g2, g3⟩ ⟨hl4, hF2, hn_g2⟩
 dsimp only at hl4 hF2 hn_g2 ⊢
 obtain _ | fu := fu
 · rw [m_laws_toBindS_l1] at hF2; cases hF2
 rw [m_laws_toBindS_l1] at hF2
 refine awp_seq (awp_seq (awp_region ?_))
 refine s_mv ?_
 refine s_mv ?_
 refine s_lenT yU50 ?_
 refine s_lt ?_
 refine k_nil (k_seq ?_)
 refine w_cond hF2 ?_ ?_ <;> intro hc5 hF3
 refine awp_lenT 0 (fun hb6 => ?_)
 refine awp_skip (k_seq (awp_seq (awp_block (awp_region ?_))))
 iterate 4 refine s_mv ?_
 obtain ⟨v7, hv7, hF4⟩ := bind_some' hF3
 refine s_ixT Bind.row hv7 (Bind.row_eq _) yE50 ?_
 refine s_ldN yA119 yS119 ?_
 obtain ⟨v8, hv8, hF5⟩ := bind_some' hF4
 refine s_pure [] (m_laws_toBind_ok fu _ _ hv8) ?_
 obtain ⟨v9, hv9, hF6⟩ := bind_some' hF5
 refine s_ixA Bind.row hv9 yE23 ?_
 refine s_stA Bind.row v8 hv9 (Bind.row_eq _) (Bind.row_eq _) yS93 yS93 ?_
 refine k_nil (k_blk (k_seq (awp_region ?_)))
 refine s_mv ?_
 refine s_add (winc2 hc5 hb6 hn_g2) ?_
 refine s_as ?_
 refine k_nil ?_
 exact s_rn (fu, (g2 + 1), (g3.set g2.toNat v8)) ⟨by first | omega | (dsimp only; omega), hF6, by first | omega | (dsimp only; omega)⟩
 refine awp_exit (k_seq_exit (k_rnd_exit2 (k_blk_exit (k_seq (awp_seq (awp_region ?_))))))
 refine s_mv ?_
 refine s_as ?_
 refine k_nil (k_seq (awp_ret (k_fin ?_)))
 cases hF3
 exact ends_a [] [7] Tryz.results34
def m_laws_toForm_AC (fuel : Nat) : Prop := ∀ (x1 : Form) (r : Form), m_laws_toForm fuel x1 = some r → AC Tryz.prog 37 [.ag [.t (.sc (.int .i64 x1.kind)), .t (.sc (.str x1.name)), .t (.sc (.int .i64 x1.n)), .t (.sl (x1.scopes.map rI)), .t (.sl (x1.kids.map Form.row))]] noOb (.ag [.t (.sc (.int .i64 r.kind)), .t (.sc (.str r.name)), .t (.sc (.int .i64 r.n)), .t (.sl (r.scopes.map rI)), .t (.sl (r.kids.map Form.row))]) noOb
def m_laws_toFormS_AC (fuel : Nat) : Prop := ∀ (x1 : (List Form)) (r : (List Form)), m_laws_toFormS fuel x1 = some r → AC Tryz.prog 36 [.t (.sl (x1.map Form.row))] noOb (.t (.sl (r.map Form.row))) noOb
theorem m_laws_toForm_st (fu : Nat) (ih_m_laws_toForm : ∀ k, k ≤ fu → m_laws_toForm_AC k) (ih_m_laws_toFormS : ∀ k, k ≤ fu → m_laws_toFormS_AC k) : m_laws_toForm_AC (fu + 1) := by
 intro x1 r hF0
 rw [m_laws_toForm] at hF0
 refine AC_i [.ag [.t (.sc (.int .i64 r.kind)), .t (.sc (.str r.name)), .t (.sc (.int .i64 r.n)), .t (.sl (r.scopes.map rI)), .t (.sl (r.kids.map Form.row))]] Tryz.func37 rfl Tryz.ntmps37 ?_
 intro C hC
 refine awp_seq (awp_region ?_)
 refine s_box ?_
 refine s_alloc yZ27 ?_
 refine k_nil (k_seq (awp_seq (awp_region ?_)))
 refine s_alloc yZ27 ?_
 refine k_nil (k_seq (awp_seq (awp_region ?_)))
 refine s_fa yF54_0 ?_
 refine s_ld1 yA3 ?_
 refine s_fa yF27_0 ?_
 refine s_stP yS3 ?_
 refine k_nil (k_seq (awp_seq (awp_region ?_)))
 refine s_fa yF54_1 ?_
 refine s_ld1 yA9 ?_
 refine s_fa yF27_1 ?_
 refine s_stP yS9 ?_
 refine k_nil (k_seq (awp_seq (awp_region ?_)))
 refine s_fa yF54_2 ?_
 refine s_ld1 yA3 ?_
 refine s_fa yF27_2 ?_
 refine s_stP yS3 ?_
 refine k_nil (k_seq (awp_seq (awp_region ?_)))
 refine s_fa yF54_3 ?_
 refine s_ld1 yA24 ?_
 obtain ⟨v1, hv1, hF1⟩ := bind_some' hF0
 refine s_pure [] (m_laws_toIntS_ok fu _ _ hv1) ?_
 refine s_fa yF27_3 ?_
 refine s_stP yS24 ?_
 refine k_nil (k_seq (awp_seq (awp_region ?_)))
 refine s_fa yF54_4 ?_
 refine s_ld1 yA52 ?_
 obtain ⟨v2, hv2, hF2⟩ := bind_some' hF1
 refine s_pure [] (ih_m_laws_toFormS fu (by omega) _ _ hv2) ?_
 refine s_fa yF27_4 ?_
 refine s_stP yS25 ?_
 refine k_nil (k_seq (awp_seq (awp_region ?_)))
 refine s_ldW yA27 yS27 ?_
 refine s_stW yS27 ?_
 refine k_nil (k_seq (awp_ret (k_fin ?_)))
 cases hF2
 exact ends_gen [] [] (by rw [Tryz.results37]; exact (res_agg (by conv => lhs; whnf) (by conv => lhs; whnf) yA27 yS27 rfl res_nil))
theorem m_laws_toFormS_st (fu : Nat) (ih_m_laws_toForm : ∀ k, k ≤ fu → m_laws_toForm_AC k) (ih_m_laws_toFormS : ∀ k, k ≤ fu → m_laws_toFormS_AC k) : m_laws_toFormS_AC (fu + 1) := by
 intro x1 r hF0
 rw [m_laws_toFormS] at hF0
 refine AC_i [.t (.sl (r.map Form.row))] Tryz.func36 rfl Tryz.ntmps36 ?_
 intro C hC
 refine awp_seq (awp_region ?_)
 refine s_as ?_
 refine k_nil (k_seq (awp_seq (awp_region ?_)))
 refine s_mv ?_
 refine s_lenT yU52 ?_
 obtain ⟨hk1, hF1⟩ := chk_some hF0
 refine s_mk Form.row (Form.mk 0 (⟨#[]⟩ : ByteArray) 0 ([] : List Int) ([] : List Form)) (Form.row_eq _) hk1 yP25 yR27 ?_
 refine s_as ?_
 refine k_nil (k_seq (awp_seq (awp_seq (awp_region ?_))))
 refine s_as ?_
 refine k_nil (k_seq (awp_block ?_))
 refine awp_fr (β := Int × (List Form)) [4, 8, 9, 10, 11, 12, 13, 14, 15, 16, 17, 18, 19, 20, 21] [7] [] (fun a => [(4, .t (.sc (.int .i64 a.2.1)))]) (fun a => [(7, .arr (a.2.2.map Form.row) 27 true)]) (fun a => a.1 ≤ fu ∧ m_laws_toFormS_l1 a.1 x1 a.2.1 a.2.2 = some r ∧ 0 ≤ a.2.1) (fu, 0, (List.replicate (x1.length : Int).toNat (Form.mk 0 (⟨#[]⟩ : ByteArray) 0 ([] : List Int) ([] : List Form)))) ⟨Nat.le_refl _, hF1, by simp⟩ ?_
 clear hF1
 rintro ⟨fu, g2, g3⟩ ⟨hl4, hF2, hn_g2⟩
 dsimp only at hl4 hF2 hn_g2 ⊢
 obtain _ | fu := fu
 · rw [m_laws_toFormS_l1] at hF2; cases hF2
 rw [m_laws_toFormS_l1] at hF2
 refine awp_seq (awp_seq (awp_region ?_))
 refine s_mv ?_
 refine s_mv ?_
 refine s_lenT yU52 ?_
 refine s_lt ?_
 refine k_nil (k_seq ?_)
 refine w_cond hF2 ?_ ?_ <;> intro hc5 hF3
 refine awp_lenT 0 (fun hb6 => ?_)
 refine awp_skip (k_seq (awp_seq (awp_block (awp_region ?_))))
 iterate 4 refine s_mv ?_
 obtain ⟨v7, hv7, hF4⟩ := bind_some' hF3
 refine s_ixT Form.row hv7 (Form.row_eq _) yE52 ?_
 refine s_ldN yA54 yS54 ?_
 obtain ⟨v8, hv8, hF5⟩ := bind_some' hF4
 refine s_pure [] (ih_m_laws_toForm fu (by omega) _ _ hv8) ?_
 obtain ⟨v9, hv9, hF6⟩ := bind_some' hF5
 refine s_ixA Form.row hv9 yE25 ?_
 refine s_stA Form.row v8 hv9 (Form.row_eq _) (Form.row_eq _) yS27 yS27 ?_
 refine k_nil (k_blk (k_seq (awp_region ?_)))
 refine s_mv ?_
 refine s_add (winc2 hc5 hb6 hn_g2) ?_
 refine s_as ?_
 refine k_nil ?_
 exact s_rn (fu, (g2 + 1), (g3.set g2.toNat v8)) ⟨by first | omega | (dsimp only; omega), hF6, by first | omega | (dsimp only; omega)⟩
 refine awp_exit (k_seq_exit (k_rnd_exit2 (k_blk_exit (k_seq (awp_seq (awp_region ?_))))))
 refine s_mv ?_
 refine s_as ?_
 refine k_nil (k_seq (awp_ret (k_fin ?_)))
 cases hF3
 exact ends_a [] [7] Tryz.results36
theorem m_laws_toForm_all (fuel : Nat) : m_laws_toForm_AC fuel ∧ m_laws_toFormS_AC fuel := by
 induction fuel using Nat.strongRecOn with
 | _ N ih =>
   cases N with
   | zero => exact ⟨(by intro x1 r h; rw [m_laws_toForm] at h; cases h), (by intro x1 r h; rw [m_laws_toFormS] at h; cases h)⟩
   | succ fu => exact ⟨m_laws_toForm_st fu (fun k hk => (ih k (by omega)).1) (fun k hk => (ih k (by omega)).2), m_laws_toFormS_st fu (fun k hk => (ih k (by omega)).1) (fun k hk => (ih k (by omega)).2)⟩
theorem m_laws_toForm_ok (fuel : Nat) : m_laws_toForm_AC fuel := (m_laws_toForm_all fuel).1
theorem m_laws_toFormS_ok (fuel : Nat) : m_laws_toFormS_AC fuel := (m_laws_toForm_all fuel).2
def m_laws_toRule_AC (fuel : Nat) : Prop := ∀ (x1 : Rule) (r : Rule), m_laws_toRule fuel x1 = some r → AC Tryz.prog 96 [.ag [.t (.sc (.int .i64 x1.pattern.kind)), .t (.sc (.str x1.pattern.name)), .t (.sc (.int .i64 x1.pattern.n)), .t (.sl (x1.pattern.scopes.map rI)), .t (.sl (x1.pattern.kids.map Form.row)), .t (.sc (.int .i64 x1.template.kind)), .t (.sc (.str x1.template.name)), .t (.sc (.int .i64 x1.template.n)), .t (.sl (x1.template.scopes.map rI)), .t (.sl (x1.template.kids.map Form.row))]] noOb (.ag [.t (.sc (.int .i64 r.pattern.kind)), .t (.sc (.str r.pattern.name)), .t (.sc (.int .i64 r.pattern.n)), .t (.sl (r.pattern.scopes.map rI)), .t (.sl (r.pattern.kids.map Form.row)), .t (.sc (.int .i64 r.template.kind)), .t (.sc (.str r.template.name)), .t (.sc (.int .i64 r.template.n)), .t (.sl (r.template.scopes.map rI)), .t (.sl (r.template.kids.map Form.row))]) noOb
theorem m_laws_toRule_ok (fuel : Nat) : m_laws_toRule_AC fuel := by
 intro x1 r hF0
 unfold m_laws_toRule at hF0
 refine AC_i [.ag [.t (.sc (.int .i64 r.pattern.kind)), .t (.sc (.str r.pattern.name)), .t (.sc (.int .i64 r.pattern.n)), .t (.sl (r.pattern.scopes.map rI)), .t (.sl (r.pattern.kids.map Form.row)), .t (.sc (.int .i64 r.template.kind)), .t (.sc (.str r.template.name)), .t (.sc (.int .i64 r.template.n)), .t (.sl (r.template.scopes.map rI)), .t (.sl (r.template.kids.map Form.row))]] Tryz.func96 rfl Tryz.ntmps96 ?_
 intro C hC
 refine awp_seq (awp_region ?_)
 refine s_box ?_
 refine s_alloc yZ73 ?_
 refine k_nil (k_seq (awp_seq (awp_region ?_)))
 refine s_alloc yZ73 ?_
 refine k_nil (k_seq (awp_seq (awp_region ?_)))
 refine s_fa yF122_0 ?_
 refine s_ldN yA54 yS54 ?_
 obtain ⟨v1, hv1, hF1⟩ := bind_some' hF0
 refine s_pure [] (m_laws_toForm_ok fuel _ _ hv1) ?_
 refine s_fa yF73_0 ?_
 refine s_stP yS27 ?_
 refine k_nil (k_seq (awp_seq (awp_region ?_)))
 refine s_fa yF122_1 ?_
 refine s_ldN yA54 yS54 ?_
 obtain ⟨v2, hv2, hF2⟩ := bind_some' hF1
 refine s_pure [] (m_laws_toForm_ok fuel _ _ hv2) ?_
 refine s_fa yF73_1 ?_
 refine s_stP yS27 ?_
 refine k_nil (k_seq (awp_seq (awp_region ?_)))
 refine s_ldW yA73 yS73 ?_
 refine s_stW yS73 ?_
 refine k_nil (k_seq (awp_ret (k_fin ?_)))
 cases hF2
 exact ends_gen [] [] (by rw [Tryz.results96]; exact (res_agg (by conv => lhs; whnf) (by conv => lhs; whnf) yA73 yS73 rfl res_nil))
def m_laws_toRuleS_AC (fuel : Nat) : Prop := ∀ (x1 : (List Rule)) (r : (List Rule)), m_laws_toRuleS fuel x1 = some r → AC Tryz.prog 35 [.t (.sl (x1.map Rule.row))] noOb (.t (.sl (r.map Rule.row))) noOb
theorem m_laws_toRuleS_ok (fuel : Nat) : m_laws_toRuleS_AC fuel := by
 intro x1 r hF0
 unfold m_laws_toRuleS at hF0
 refine AC_i [.t (.sl (r.map Rule.row))] Tryz.func35 rfl Tryz.ntmps35 ?_
 intro C hC
 refine awp_seq (awp_region ?_)
 refine s_as ?_
 refine k_nil (k_seq (awp_seq (awp_region ?_)))
 refine s_mv ?_
 refine s_lenT yU51 ?_
 obtain ⟨hk1, hF1⟩ := chk_some hF0
 refine s_mk Rule.row (Rule.mk (Form.mk 0 (⟨#[]⟩ : ByteArray) 0 ([] : List Int) ([] : List Form)) (Form.mk 0 (⟨#[]⟩ : ByteArray) 0 ([] : List Int) ([] : List Form))) (Rule.row_eq _) hk1 yP62 yR73 ?_
 refine s_as ?_
 refine k_nil (k_seq (awp_seq (awp_seq (awp_region ?_))))
 refine s_as ?_
 refine k_nil (k_seq (awp_block ?_))
 refine awp_fr (β := Int × (List Rule)) [4, 8, 9, 10, 11, 12, 13, 14, 15, 16, 17, 18, 19, 20, 21] [7] [] (fun a => [(4, .t (.sc (.int .i64 a.2.1)))]) (fun a => [(7, .arr (a.2.2.map Rule.row) 73 true)]) (fun a => a.1 ≤ fuel ∧ m_laws_toRuleS_l1 a.1 x1 a.2.1 a.2.2 = some r ∧ 0 ≤ a.2.1) (fuel, 0, (List.replicate (x1.length : Int).toNat (Rule.mk (Form.mk 0 (⟨#[]⟩ : ByteArray) 0 ([] : List Int) ([] : List Form)) (Form.mk 0 (⟨#[]⟩ : ByteArray) 0 ([] : List Int) ([] : List Form))))) ⟨Nat.le_refl _, hF1, by simp⟩ ?_
 clear hF1
 rintro ⟨fu, g2, g3⟩ ⟨hl4, hF2, hn_g2⟩
 dsimp only at hl4 hF2 hn_g2 ⊢
 obtain _ | fu := fu
 · rw [m_laws_toRuleS_l1] at hF2; cases hF2
 rw [m_laws_toRuleS_l1] at hF2
 refine awp_seq (awp_seq (awp_region ?_))
 refine s_mv ?_
 refine s_mv ?_
 refine s_lenT yU51 ?_
 refine s_lt ?_
 refine k_nil (k_seq ?_)
 refine w_cond hF2 ?_ ?_ <;> intro hc5 hF3
 refine awp_lenT 0 (fun hb6 => ?_)
 refine awp_skip (k_seq (awp_seq (awp_block (awp_region ?_))))
 iterate 4 refine s_mv ?_
 obtain ⟨v7, hv7, hF4⟩ := bind_some' hF3
 refine s_ixT Rule.row hv7 (Rule.row_eq _) yE51 ?_
 refine s_ldN yA122 yS122 ?_
 obtain ⟨v8, hv8, hF5⟩ := bind_some' hF4
 refine s_pure [] (m_laws_toRule_ok fu _ _ hv8) ?_
 obtain ⟨v9, hv9, hF6⟩ := bind_some' hF5
 refine s_ixA Rule.row hv9 yE62 ?_
 refine s_stA Rule.row v8 hv9 (Rule.row_eq _) (Rule.row_eq _) yS73 yS73 ?_
 refine k_nil (k_blk (k_seq (awp_region ?_)))
 refine s_mv ?_
 refine s_add (winc2 hc5 hb6 hn_g2) ?_
 refine s_as ?_
 refine k_nil ?_
 exact s_rn (fu, (g2 + 1), (g3.set g2.toNat v8)) ⟨by first | omega | (dsimp only; omega), hF6, by first | omega | (dsimp only; omega)⟩
 refine awp_exit (k_seq_exit (k_rnd_exit2 (k_blk_exit (k_seq (awp_seq (awp_region ?_))))))
 refine s_mv ?_
 refine s_as ?_
 refine k_nil (k_seq (awp_ret (k_fin ?_)))
 cases hF3
 exact ends_a [] [7] Tryz.results35
def m_spec_l5Shape_AC (fuel : Nat) : Prop := ∀ (x1 : Form) (x2 : (List Form)) (r : (List Hit)), m_spec_l5Shape fuel x1 x2 = some r → AC Tryz.prog 190 [.ag [.t (.sc (.int .i64 x1.kind)), .t (.sc (.str x1.name)), .t (.sc (.int .i64 x1.n)), .t (.sl (x1.scopes.map rI)), .t (.sl (x1.kids.map Form.row))], .t (.sl (x2.map Form.row))] noOb (.t (.sl (r.map Hit.row))) noOb
theorem m_spec_l5Shape_ok (fuel : Nat) : m_spec_l5Shape_AC fuel := by
 intro x1 x2 r hF0
 unfold m_spec_l5Shape at hF0
 refine AC_i [.t (.sl (r.map Hit.row))] Tryz.func190 rfl Tryz.ntmps190 ?_
 intro C hC
 refine awp_seq (awp_region ?_)
 refine s_box ?_
 refine s_as ?_
 refine k_nil (k_seq (awp_seq (awp_region ?_)))
 refine s_bs Hit.row ([] : List Hit) yP30 yR40 ?_
 refine s_as ?_
 refine k_nil (k_seq (awp_seq (awp_region ?_)))
 refine s_bs Form.row ([] : List Form) yP25 yR27 ?_
 refine s_ldW yA27 yS27 ?_
 refine s_mv ?_
 obtain ⟨v1, hv1, hF1⟩ := bind_some' hF0
 refine s_call [(9300, 11), (9200, 12014)] [] _ _ (m_spec_l4Vars_ok fuel _ _ _ _ hv1) ?_
 refine s_as ?_
 refine k_nil (k_seq (awp_seq (awp_region ?_)))
 refine s_bs rI ([] : List Int) yP24 yR3 ?_
 refine s_ldW yA27 yS27 ?_
 refine s_mv ?_
 obtain ⟨v2, hv2, hF2⟩ := bind_some' hF1
 refine s_call [(9300, 15), (9200, 12018)] [] _ _ (m_spec_l4Depths_ok fuel _ _ _ _ _ hv2) ?_
 refine s_as ?_
 refine k_nil (k_seq (awp_seq (awp_seq (awp_region ?_))))
 refine s_as ?_
 refine k_nil (k_seq (awp_block ?_))
 refine awp_mv 5 10 5020 (by conv => lhs; whnf) (by conv => lhs; whnf) rfl ?_
 refine awp_frame2 [5, 8, 9, 19, 20, 21, 22, 23, 24, 25, 26, 27, 28, 29, 30, 31, 32, 33, 34, 35, 36, 37, 38, 39, 40, 41, 42, 43, 44, 45] [5020] [9, 44, 45] [5020] (fun a : Nat × (List Hit) × Int => a.1) (fun a : Nat × (List Hit) × Int => [(5, .ar 5020), (8, .t (.sc (.int .i64 a.2.2)))]) (fun a : Nat × (List Hit) × Int => [(5020, .arr (a.2.1.map Hit.row) 40 true)]) (fun a : Nat × (List Hit) × Int => a.1 ≤ fuel ∧ m_spec_l5Shape_l1 a.1 v1 v2 a.2.1 a.2.2 = some r ∧ 0 ≤ a.2.2) (fuel, ([] : List Hit), 0) ⟨Nat.le_refl _, hF2, by simp⟩ (by rfl) (by rfl) (fun _ => rfl) (hasF_cons (by conv => lhs; whnf) (by rfl) (hasF_cons (by conv => lhs; whnf) (by rfl) hasF_nil)) (hasO_cons (by conv => lhs; whnf) (by rfl) hasO_nil) (fresh_C hC rfl) (by repeat (first | exact freshS_args rfl | refine freshS_upd rfl ?_ | refine freshS_frame rfl ?_)) (by repeat (first | exact freshM_no | exact objs_fresh rfl | refine freshM_upd rfl ?_ | refine freshM_frame rfl ?_)) ?_
 clear hF2
 rintro ⟨fu, g3, g4⟩ ⟨hl5, hF3, hn_g4⟩
 dsimp only at hl5 hF3 hn_g4 ⊢
 obtain _ | fu := fu
 · rw [m_spec_l5Shape_l1] at hF3; cases hF3
 rw [m_spec_l5Shape_l1] at hF3
 refine awp_seq (awp_seq (awp_region ?_))
 refine s_mv ?_
 refine s_mv ?_
 refine s_lenA yU25 ?_
 refine s_lt ?_
 refine k_nil (k_seq ?_)
 refine w_cond hF3 ?_ ?_ <;> intro hc6 hF4
 refine awp_lenA 6 12014 (fun hb7 => ?_)
 refine awp_skip (k_seq (awp_seq (awp_block (awp_seq ?_))))
 refine awp_draw yMix (by kernel_rfl) ?_
 refine s_mv ?_
 refine s_mv ?_
 obtain ⟨v8, hv8, hF5⟩ := bind_some' hF4
 refine s_ixA Form.row hv8 yE25 ?_
 refine s_lAN Form.row hv8 (Form.row_eq _) yA27 yS27 ?_
 refine s_mv ?_
 refine s_mv ?_
 obtain ⟨v9, hv9, hF6⟩ := bind_some' hF5
 refine s_ixA rI hv9 yE24 ?_
 refine s_lA1 rI hv9 rfl yA3 ?_
 refine s_bld yZ40 yL40 ?_
 refine s_alloc yZ40 ?_
 refine s_stW yS40 ?_
 refine k_nilD (by kernel_rfl) ?_
 refine k_seq (awp_seq (awp_seq (awp_region ?_)))
 refine s_fa yF40_1 ?_
 refine s_ld1 yA3 ?_
 refine s_eq ?_
 refine k_nil (k_seq ?_)
 refine w_cond hF6 ?_ ?_ <;> intro hc10 hF7
 refine awp_region ?_
 refine s_mv ?_
 refine s_mv ?_
 obtain ⟨v11, hv11, hF8⟩ := bind_some' hF7
 refine s_ixA Form.row hv11 yE25 ?_
 refine s_lAN Form.row hv11 (Form.row_eq _) yA27 yS27 ?_
 refine s_fa yF40_2 ?_
 refine s_stP yS27 ?_
 refine k_nil (k_seq (awp_region ?_))
 refine s_mv ?_
 refine s_ldW yA40 yS40 ?_
 refine s_bs Hit.row [(Hit.mk v8 v9 v11 ([] : List Hit))] yP30 yR40 ?_
 obtain ⟨hk12, hF9⟩ := chk_some hF8
 refine s_apT Hit.row (fun y => Hit.row_len y) hk12 yP30 ?_
 refine s_as ?_
 refine k_nil (k_blk (k_seq (awp_region ?_)))
 refine s_mv ?_
 refine s_add (winc2 hc6 hb7 hn_g4) ?_
 refine s_as ?_
 refine k_nil ?_
 exact s_rn (fu, (g3 ++ [(Hit.mk v8 v9 v11 ([] : List Hit))]), (g4 + 1)) ⟨by first | omega | (dsimp only; omega), hF9, by first | omega | (dsimp only; omega)⟩ [(5020, 45)]
 refine awp_skip (k_seq (awp_region ?_))
 refine s_mv ?_
 refine s_ldW yA40 yS40 ?_
 refine s_bs Hit.row [(Hit.mk v8 v9 (Form.mk 0 (⟨#[]⟩ : ByteArray) 0 ([] : List Int) ([] : List Form)) ([] : List Hit))] yP30 yR40 ?_
 obtain ⟨hk13, hF8⟩ := chk_some hF7
 refine s_apT Hit.row (fun y => Hit.row_len y) hk13 yP30 ?_
 refine s_as ?_
 refine k_nil (k_blk (k_seq (awp_region ?_)))
 refine s_mv ?_
 refine s_add (winc2 hc6 hb7 hn_g4) ?_
 refine s_as ?_
 refine k_nil ?_
 exact s_rn (fu, (g3 ++ [(Hit.mk v8 v9 (Form.mk 0 (⟨#[]⟩ : ByteArray) 0 ([] : List Int) ([] : List Form)) ([] : List Hit))]), (g4 + 1)) ⟨by first | omega | (dsimp only; omega), hF8, by first | omega | (dsimp only; omega)⟩ [(5020, 45)]
 refine awp_exit (k_seq_exit (k_rnd_exit2 (k_blk_exit (k_seq (awp_seq (awp_region ?_))))))
 refine s_mv ?_
 refine s_as ?_
 refine k_nil (k_seq (awp_ret (k_fin ?_)))
 cases hF4
 exact ends_a [] [5020] Tryz.results190
def m_spec_l4Find_AC (fuel : Nat) : Prop := ∀ (x1 : (List Hit)) (x2 : Form) (r : Int), m_spec_l4Find fuel x1 x2 = some r → AC Tryz.prog 171 [.t (.sl (x1.map Hit.row)), .ag [.t (.sc (.int .i64 x2.kind)), .t (.sc (.str x2.name)), .t (.sc (.int .i64 x2.n)), .t (.sl (x2.scopes.map rI)), .t (.sl (x2.kids.map Form.row))]] noOb (.t (.sc (.int .i64 r))) noOb
theorem m_spec_l4Find_ok (fuel : Nat) : m_spec_l4Find_AC fuel := by
 intro x1 x2 r hF0
 unfold m_spec_l4Find at hF0
 refine AC_i [.t (.sc (.int .i64 r))] Tryz.func171 rfl Tryz.ntmps171 ?_
 intro C hC
 refine awp_seq (awp_region ?_)
 refine s_box ?_
 refine s_as ?_
 refine k_nil (k_seq (awp_seq (awp_seq (awp_region ?_))))
 refine s_as ?_
 refine k_nil (k_seq (awp_block ?_))
 refine awp_fr (β := Int) [4, 5, 6, 7, 8, 9, 10, 11, 12, 13, 14, 15, 16, 17, 18, 19] [] [] (fun a => [(5, .t (.sc (.int .i64 a.2)))]) (fun a => []) (fun a => a.1 ≤ fuel ∧ m_spec_l4Find_l1 a.1 x1 x2 a.2 = some r ∧ 0 ≤ a.2) (fuel, 0) ⟨Nat.le_refl _, hF0, by simp⟩ ?_
 clear hF0
 rintro ⟨fu, g1⟩ ⟨hl2, hF1, hn_g1⟩
 dsimp only at hl2 hF1 hn_g1 ⊢
 obtain _ | fu := fu
 · rw [m_spec_l4Find_l1] at hF1; cases hF1
 rw [m_spec_l4Find_l1] at hF1
 refine awp_seq (awp_seq (awp_region ?_))
 refine s_mv ?_
 refine s_mv ?_
 refine s_lenT yU30 ?_
 refine s_lt ?_
 refine k_nil (k_seq ?_)
 refine w_cond hF1 ?_ ?_ <;> intro hc3 hF2
 refine awp_lenT 0 (fun hb4 => ?_)
 refine awp_skip (k_seq (awp_seq (awp_block (awp_seq ?_))))
 refine awp_draw yMix (by kernel_rfl) ?_
 refine s_mv ?_
 refine s_mv ?_
 obtain ⟨v5, hv5, hF3⟩ := bind_some' hF2
 refine s_ixT Hit.row hv5 (Hit.row_eq _) yE30 ?_
 refine s_fa yF40_0 ?_
 refine s_ldN yA27 yS27 ?_
 refine s_ldW yA27 yS27 ?_
 obtain ⟨v6, hv6, hF4⟩ := bind_some' hF3
 refine s_pure [] (m_spec_FormSame_ok fu _ _ _ hv6) ?_
 refine k_nilD (by kernel_rfl) ?_
 refine k_seq ?_
 refine w_cond hF4 ?_ ?_ <;> intro hc7 hF5
 refine awp_seq (awp_region ?_)
 refine s_mv ?_
 refine s_as ?_
 refine k_nil (k_seq (awp_ret (k_blk_ret (k_seq_ret (k_rnd_ret2 (k_blk_ret (k_seq_ret (k_fin ?_))))))))
 cases hF5
 exact ends_a [] [] Tryz.results171
 refine awp_skip (k_blk (k_seq (awp_region ?_)))
 refine s_mv ?_
 refine s_add (winc2 hc3 hb4 hn_g1) ?_
 refine s_as ?_
 refine k_nil ?_
 exact s_rn (fu, (g1 + 1)) ⟨by first | omega | (dsimp only; omega), hF5, by first | omega | (dsimp only; omega)⟩
 refine awp_exit (k_seq_exit (k_rnd_exit2 (k_blk_exit (k_seq (awp_seq (awp_region ?_))))))
 refine s_as ?_
 refine k_nil (k_seq (awp_ret (k_fin ?_)))
 cases hF2
 exact ends_a [] [] Tryz.results171
def m_spec_l5Depth_AC (fuel : Nat) : Prop := ∀ (x1 : (List Hit)) (x2 : Form) (r : Int), m_spec_l5Depth fuel x1 x2 = some r → AC Tryz.prog 194 [.t (.sl (x1.map Hit.row)), .ag [.t (.sc (.int .i64 x2.kind)), .t (.sc (.str x2.name)), .t (.sc (.int .i64 x2.n)), .t (.sl (x2.scopes.map rI)), .t (.sl (x2.kids.map Form.row))]] noOb (.t (.sc (.int .i64 r))) noOb
theorem m_spec_l5Depth_ok (fuel : Nat) : m_spec_l5Depth_AC fuel := by
 intro x1 x2 r hF0
 unfold m_spec_l5Depth at hF0
 refine AC_i [.t (.sc (.int .i64 r))] Tryz.func194 rfl Tryz.ntmps194 ?_
 intro C hC
 refine awp_seq (awp_region ?_)
 refine s_box ?_
 refine s_as ?_
 refine k_nil (k_seq (awp_seq (awp_seq (awp_region ?_))))
 refine s_fa yF27_0 ?_
 refine s_ld1 yA3 ?_
 refine s_ne ?_
 refine k_nil (k_seq ?_)
 refine w_cond hF0 ?_ ?_ <;> intro hc1 hF1
 refine awp_seq (awp_region ?_)
 refine s_as ?_
 refine k_nil (k_seq (awp_ret (k_seq_ret (k_fin ?_))))
 cases hF1
 exact ends_a [] [] Tryz.results194
 refine awp_skip (k_seq (awp_seq (awp_region ?_)))
 refine s_mv ?_
 refine s_ldW yA27 yS27 ?_
 obtain ⟨v2, hv2, hF2⟩ := bind_some' hF1
 refine s_pure [] (m_spec_l4Find_ok fuel _ _ _ hv2) ?_
 refine s_as ?_
 refine k_nil (k_seq (awp_seq (awp_seq (awp_region ?_))))
 refine s_mv ?_
 refine s_lt ?_
 refine k_nil (k_seq ?_)
 refine w_cond hF2 ?_ ?_ <;> intro hc3 hF3
 refine awp_seq (awp_region ?_)
 refine s_as ?_
 refine k_nil (k_seq (awp_ret (k_seq_ret (k_fin ?_))))
 cases hF3
 exact ends_a [] [] Tryz.results194
 refine awp_skip (k_seq (awp_seq (awp_region ?_)))
 refine s_mv ?_
 refine s_mv ?_
 obtain ⟨v4, hv4, hF4⟩ := bind_some' hF3
 refine s_ixT Hit.row hv4 (Hit.row_eq _) yE30 ?_
 refine s_fa yF40_1 ?_
 refine s_ld1 yA3 ?_
 refine s_as ?_
 refine k_nil (k_seq (awp_ret (k_fin ?_)))
 cases hF4
 exact ends_a [] [] Tryz.results194
def m_spec_l5Rows_AC (fuel : Nat) : Prop := ∀ (x1 : (List Hit)) (x2 : Form) (r : Bool), m_spec_l5Rows fuel x1 x2 = some r → AC Tryz.prog 195 [.t (.sl (x1.map Hit.row)), .ag [.t (.sc (.int .i64 x2.kind)), .t (.sc (.str x2.name)), .t (.sc (.int .i64 x2.n)), .t (.sl (x2.scopes.map rI)), .t (.sl (x2.kids.map Form.row))]] noOb (.t (.sc (.bool r))) noOb
theorem m_spec_l5Rows_st (fu : Nat) (ih_m_spec_l5Rows : ∀ k, k ≤ fu → m_spec_l5Rows_AC k) : m_spec_l5Rows_AC (fu + 1) := by
 intro x1 x2 r hF0
 rw [m_spec_l5Rows] at hF0
 refine AC_i [.t (.sc (.bool r))] Tryz.func195 rfl Tryz.ntmps195 ?_
 intro C hC
 refine awp_seq (awp_region ?_)
 refine s_box ?_
 refine s_as ?_
 refine k_nil (k_seq (awp_seq (awp_seq (awp_region ?_))))
 refine s_mv ?_
 refine s_ldW yA27 yS27 ?_
 obtain ⟨v1, hv1, hF1⟩ := bind_some' hF0
 refine s_pure [] (m_spec_l5Depth_ok fu _ _ _ hv1) ?_
 refine s_gt ?_
 refine k_nil (k_seq ?_)
 refine w_cond hF1 ?_ ?_ <;> intro hc2 hF2
 refine awp_seq (awp_region ?_)
 refine s_as ?_
 refine k_nil (k_seq (awp_ret (k_seq_ret (k_fin ?_))))
 cases hF2
 exact ends_a [] [] Tryz.results195
 refine awp_skip (k_seq (awp_seq (awp_seq (awp_region ?_))))
 refine s_as ?_
 refine k_nil (k_seq (awp_block ?_))
 refine awp_fr (β := Int) [4, 5, 10, 11, 12, 13, 14, 15, 16, 17, 18, 19, 20, 21, 22, 23] [] [] (fun a => [(5, .t (.sc (.int .i64 a.2)))]) (fun a => []) (fun a => a.1 ≤ fu ∧ m_spec_l5Rows_l1 a.1 x1 x2 a.2 = some r ∧ 0 ≤ a.2) (fu, 0) ⟨Nat.le_refl _, hF2, by simp⟩ ?_
 clear hF2
 rintro ⟨fu, g3⟩ ⟨hl4, hF3, hn_g3⟩
 dsimp only at hl4 hF3 hn_g3 ⊢
 obtain _ | fu := fu
 · rw [m_spec_l5Rows_l1] at hF3; cases hF3
 rw [m_spec_l5Rows_l1] at hF3
 refine awp_seq (awp_seq (awp_region ?_))
 refine s_mv ?_
 refine s_fa yF27_4 ?_
 refine s_ld1 yA25 ?_
 refine s_lenT yU25 ?_
 refine s_lt ?_
 refine k_nil (k_seq ?_)
 refine w_cond hF3 ?_ ?_ <;> intro hc5 hF4
 refine awp_lenT 12 (fun hb6 => ?_)
 refine awp_skip (k_seq (awp_seq (awp_block (awp_seq (awp_region ?_)))))
 refine s_mv ?_
 refine s_fa yF27_4 ?_
 refine s_ld1 yA25 ?_
 refine s_mv ?_
 obtain ⟨v7, hv7, hF5⟩ := bind_some' hF4
 refine s_ixT Form.row hv7 (Form.row_eq _) yE25 ?_
 refine s_ldN yA27 yS27 ?_
 obtain ⟨v8, hv8, hF6⟩ := bind_some' hF5
 refine s_pure [] (ih_m_spec_l5Rows fu (by omega) _ _ _ hv8) ?_
 refine k_nil (k_seq ?_)
 refine w_cond hF6 ?_ ?_ <;> intro hc9 hF7
 refine awp_seq (awp_region ?_)
 refine s_as ?_
 refine k_nil (k_seq (awp_ret (k_blk_ret (k_seq_ret (k_rnd_ret2 (k_blk_ret (k_seq_ret (k_fin ?_))))))))
 cases hF7
 exact ends_a [] [] Tryz.results195
 refine awp_skip (k_blk (k_seq (awp_region ?_)))
 refine s_mv ?_
 refine s_add (winc2 hc5 hb6 hn_g3) ?_
 refine s_as ?_
 refine k_nil ?_
 exact s_rn (fu, (g3 + 1)) ⟨by first | omega | (dsimp only; omega), hF7, by first | omega | (dsimp only; omega)⟩
 refine awp_exit (k_seq_exit (k_rnd_exit2 (k_blk_exit (k_seq (awp_seq (awp_region ?_))))))
 refine s_as ?_
 refine k_nil (k_seq (awp_ret (k_fin ?_)))
 cases hF4
 exact ends_a [] [] Tryz.results195
theorem m_spec_l5Rows_all (fuel : Nat) : m_spec_l5Rows_AC fuel := by
 induction fuel using Nat.strongRecOn with
 | _ N ih =>
   cases N with
   | zero => exact (by intro x1 x2 r h; rw [m_spec_l5Rows] at h; cases h)
   | succ fu => exact m_spec_l5Rows_st fu (fun k hk => (ih k (by omega)))
theorem m_spec_l5Rows_ok (fuel : Nat) : m_spec_l5Rows_AC fuel := (m_spec_l5Rows_all fuel)
def m_spec_l5Less_AC (fuel : Nat) : Prop := ∀ (x1 : (List Hit)) (r : (List Hit)), m_spec_l5Less fuel x1 = some r → AC Tryz.prog 196 [.t (.sl (x1.map Hit.row))] noOb (.t (.sl (r.map Hit.row))) noOb
theorem m_spec_l5Less_ok (fuel : Nat) : m_spec_l5Less_AC fuel := by
 intro x1 r hF0
 unfold m_spec_l5Less at hF0
 refine AC_i [.t (.sl (r.map Hit.row))] Tryz.func196 rfl Tryz.ntmps196 ?_
 intro C hC
 refine awp_seq (awp_region ?_)
 refine s_as ?_
 refine k_nil (k_seq (awp_seq (awp_region ?_)))
 refine s_bs Hit.row ([] : List Hit) yP30 yR40 ?_
 refine s_as ?_
 refine k_nil (k_seq (awp_seq (awp_seq (awp_region ?_))))
 refine s_as ?_
 refine k_nil (k_seq (awp_block ?_))
 refine awp_mv 3 6 5020 (by conv => lhs; whnf) (by conv => lhs; whnf) rfl ?_
 refine awp_frame2 [3, 4, 5, 7, 8, 9, 10, 11, 12, 13, 14, 15, 16, 17, 18, 19, 20, 21, 22, 23, 24, 25, 26, 27, 28, 29, 30, 31, 32, 33, 34, 35, 36, 37, 38, 39] [5020] [5, 38, 39] [5020] (fun a : Nat × (List Hit) × Int => a.1) (fun a : Nat × (List Hit) × Int => [(3, .ar 5020), (4, .t (.sc (.int .i64 a.2.2)))]) (fun a : Nat × (List Hit) × Int => [(5020, .arr (a.2.1.map Hit.row) 40 true)]) (fun a : Nat × (List Hit) × Int => a.1 ≤ fuel ∧ m_spec_l5Less_l1 a.1 x1 a.2.1 a.2.2 = some r ∧ 0 ≤ a.2.2) (fuel, ([] : List Hit), 0) ⟨Nat.le_refl _, hF0, by simp⟩ (by rfl) (by rfl) (fun _ => rfl) (hasF_cons (by conv => lhs; whnf) (by rfl) (hasF_cons (by conv => lhs; whnf) (by rfl) hasF_nil)) (hasO_cons (by conv => lhs; whnf) (by rfl) hasO_nil) (fresh_C hC rfl) (by repeat (first | exact freshS_args rfl | refine freshS_upd rfl ?_ | refine freshS_frame rfl ?_)) (by repeat (first | exact freshM_no | exact objs_fresh rfl | refine freshM_upd rfl ?_ | refine freshM_frame rfl ?_)) ?_
 clear hF0
 rintro ⟨fu, g1, g2⟩ ⟨hl3, hF1, hn_g2⟩
 dsimp only at hl3 hF1 hn_g2 ⊢
 obtain _ | fu := fu
 · rw [m_spec_l5Less_l1] at hF1; cases hF1
 rw [m_spec_l5Less_l1] at hF1
 refine awp_seq (awp_seq (awp_region ?_))
 refine s_mv ?_
 refine s_mv ?_
 refine s_lenT yU30 ?_
 refine s_lt ?_
 refine k_nil (k_seq ?_)
 refine w_cond hF1 ?_ ?_ <;> intro hc4 hF2
 refine awp_lenT 0 (fun hb5 => ?_)
 refine awp_skip (k_seq (awp_seq (awp_block (awp_seq ?_))))
 refine awp_draw yMix (by kernel_rfl) ?_
 refine s_mv ?_
 refine s_mv ?_
 obtain ⟨v6, hv6, hF3⟩ := bind_some' hF2
 refine s_ixT Hit.row hv6 (Hit.row_eq _) yE30 ?_
 refine s_fa yF40_0 ?_
 refine s_ldN yA27 yS27 ?_
 refine s_mv ?_
 refine s_mv ?_
 obtain ⟨v7, hv7, hF4⟩ := bind_some' hF3
 refine s_ixT Hit.row hv7 (Hit.row_eq _) yE30 ?_
 refine s_fa yF40_1 ?_
 refine s_ld1 yA3 ?_
 refine s_mv ?_
 refine s_mv ?_
 obtain ⟨v8, hv8, hF5⟩ := bind_some' hF4
 refine s_ixT Hit.row hv8 (Hit.row_eq _) yE30 ?_
 refine s_fa yF40_2 ?_
 refine s_ldN yA27 yS27 ?_
 refine s_bld yZ40 yL40 ?_
 refine s_alloc yZ40 ?_
 refine s_stW yS40 ?_
 refine k_nilD (by kernel_rfl) ?_
 refine k_seq (awp_seq (awp_seq (awp_region ?_)))
 refine s_fa yF40_1 ?_
 refine s_ld1 yA3 ?_
 refine s_gt ?_
 refine k_nil (k_seq ?_)
 refine w_cond hF5 ?_ ?_ <;> intro hc9 hF6
 refine awp_region ?_
 refine s_fa yF40_1 ?_
 refine s_ld1 yA3 ?_
 refine s_sub rfl ?_
 refine s_fa yF40_1 ?_
 refine s_stP yS3 ?_
 refine k_nil (k_seq (awp_region ?_))
 refine s_mv ?_
 refine s_ldW yA40 yS40 ?_
 refine s_bs Hit.row [(Hit.mk v6.name (w64 (v7.depth - 1)) v8.one ([] : List Hit))] yP30 yR40 ?_
 obtain ⟨hk10, hF7⟩ := chk_some hF6
 refine s_apT Hit.row (fun y => Hit.row_len y) hk10 yP30 ?_
 refine s_as ?_
 refine k_nil (k_blk (k_seq (awp_region ?_)))
 refine s_mv ?_
 refine s_add (winc2 hc4 hb5 hn_g2) ?_
 refine s_as ?_
 refine k_nil ?_
 exact s_rn (fu, (g1 ++ [(Hit.mk v6.name (w64 (v7.depth - 1)) v8.one ([] : List Hit))]), (g2 + 1)) ⟨by first | omega | (dsimp only; omega), hF7, by first | omega | (dsimp only; omega)⟩ [(5020, 39)]
 refine awp_skip (k_seq (awp_region ?_))
 refine s_mv ?_
 refine s_ldW yA40 yS40 ?_
 refine s_bs Hit.row [(Hit.mk v6.name v7.depth v8.one ([] : List Hit))] yP30 yR40 ?_
 obtain ⟨hk11, hF7⟩ := chk_some hF6
 refine s_apT Hit.row (fun y => Hit.row_len y) hk11 yP30 ?_
 refine s_as ?_
 refine k_nil (k_blk (k_seq (awp_region ?_)))
 refine s_mv ?_
 refine s_add (winc2 hc4 hb5 hn_g2) ?_
 refine s_as ?_
 refine k_nil ?_
 exact s_rn (fu, (g1 ++ [(Hit.mk v6.name v7.depth v8.one ([] : List Hit))]), (g2 + 1)) ⟨by first | omega | (dsimp only; omega), hF7, by first | omega | (dsimp only; omega)⟩ [(5020, 39)]
 refine awp_exit (k_seq_exit (k_rnd_exit2 (k_blk_exit (k_seq (awp_seq (awp_region ?_))))))
 refine s_mv ?_
 refine s_as ?_
 refine k_nil (k_seq (awp_ret (k_fin ?_)))
 cases hF2
 exact ends_a [] [5020] Tryz.results196
def m_spec_l5Is_AC (fuel : Nat) : Prop := ∀ (x1 : Form) (x2 : (List Hit)) (r : Bool), m_spec_l5Is fuel x1 x2 = some r → AC Tryz.prog 170 [.ag [.t (.sc (.int .i64 x1.kind)), .t (.sc (.str x1.name)), .t (.sc (.int .i64 x1.n)), .t (.sl (x1.scopes.map rI)), .t (.sl (x1.kids.map Form.row))], .t (.sl (x2.map Hit.row))] noOb (.t (.sc (.bool r))) noOb
theorem m_spec_l5Is_st (fu : Nat) (ih_m_spec_l5Is : ∀ k, k ≤ fu → m_spec_l5Is_AC k) : m_spec_l5Is_AC (fu + 1) := by
 intro x1 x2 r hF0
 rw [m_spec_l5Is] at hF0
 refine AC_i [.t (.sc (.bool r))] Tryz.func170 rfl Tryz.ntmps170 ?_
 intro C hC
 refine awp_seq (awp_region ?_)
 refine s_box ?_
 refine s_as ?_
 refine k_nil (k_seq (awp_seq (awp_seq (awp_region ?_))))
 refine s_ldW yA27 yS27 ?_
 obtain ⟨v1, hv1, hF1⟩ := bind_some' hF0
 refine s_pure [] (m_spec_l4Dots_ok fu _ _ hv1) ?_
 refine s_mv ?_
 refine w_guard _ 8 hF1 ?_ ?_ <;> intro hc2 hF2
 iterate 4 refine r_no rfl ?_
 refine s_pkt ?_
 refine k_nil (k_seq (awp_true rfl (awp_seq (awp_region ?_))))
 refine s_as ?_
 refine k_nil (k_seq (awp_ret (k_seq_ret (k_fin ?_))))
 cases hF2
 exact ends_a [] [] Tryz.results170
 refine s_mv ?_
 refine s_ldW yA27 yS27 ?_
 obtain ⟨v3, hv3, hF3⟩ := bind_some' hF2
 refine s_pure [] (m_spec_l5Depth_ok fu _ _ _ hv3) ?_
 refine s_gt ?_
 refine s_pkf ?_
 refine k_nil (k_seq ?_)
 refine w_cond hF3 ?_ ?_ <;> intro hc4 hF4
 refine awp_seq (awp_region ?_)
 refine s_as ?_
 refine k_nil (k_seq (awp_ret (k_seq_ret (k_fin ?_))))
 cases hF4
 exact ends_a [] [] Tryz.results170
 refine awp_skip (k_seq (awp_seq (awp_seq (awp_region ?_))))
 refine s_as ?_
 refine k_nil (k_seq (awp_block ?_))
 refine awp_fr (β := Int) [4, 5, 14, 15, 16, 17, 18, 19, 20, 21, 22, 23, 24, 25, 26, 27, 28, 29, 30, 31, 32, 33, 34, 35, 36, 37, 38, 39, 40, 41, 42, 43, 44, 45, 46, 47, 48, 49, 50, 51, 52, 53, 54, 55, 56, 57, 58, 59, 60, 61, 62, 63, 64, 65, 66, 67, 68, 69, 70, 71, 72, 73, 74, 75, 76, 77, 78, 79] [] [] (fun a => [(5, .t (.sc (.int .i64 a.2)))]) (fun a => []) (fun a => a.1 ≤ fu ∧ m_spec_l5Is_l1 a.1 x1 x2 a.2 = some r ∧ 0 ≤ a.2) (fu, 0) ⟨Nat.le_refl _, hF4, by simp⟩ ?_
 clear hF4
 rintro ⟨fu, g5⟩ ⟨hl6, hF5, hn_g5⟩
 dsimp only at hl6 hF5 hn_g5 ⊢
 obtain _ | fu := fu
 · rw [m_spec_l5Is_l1] at hF5; cases hF5
 rw [m_spec_l5Is_l1] at hF5
 refine awp_seq (awp_seq (awp_region ?_))
 refine s_mv ?_
 refine s_fa yF27_4 ?_
 refine s_ld1 yA25 ?_
 refine s_lenT yU25 ?_
 refine s_lt ?_
 refine k_nil (k_seq ?_)
 refine w_cond hF5 ?_ ?_ <;> intro hc7 hF6
 refine awp_lenT 16 (fun hb8 => ?_)
 refine awp_skip (k_seq (awp_seq (awp_block (awp_seq (awp_seq (awp_region ?_))))))
 refine s_fa yF27_4 ?_
 refine s_ld1 yA25 ?_
 refine s_mv ?_
 obtain ⟨v9, hv9, hF7⟩ := bind_some' hF6
 refine s_ixT Form.row hv9 (Form.row_eq _) yE25 ?_
 refine s_ldN yA27 yS27 ?_
 obtain ⟨v10, hv10, hF8⟩ := bind_some' hF7
 refine s_pure [] (m_spec_l4Dots_ok fu _ _ hv10) ?_
 refine k_nil (k_seq ?_)
 refine w_cond hF8 ?_ ?_ <;> intro hc11 hF9
 refine awp_seq (awp_seq (awp_region ?_))
 refine s_mv ?_
 refine s_eq ?_
 refine s_mv ?_
 refine w_guard _ 29 hF9 ?_ ?_ <;> intro hc12 hF10
 iterate 7 refine r_no rfl ?_
 refine s_pkt ?_
 refine k_nil (k_seq (awp_true rfl (awp_seq (awp_region ?_))))
 refine s_as ?_
 refine k_nil (k_seq (awp_ret (k_seq_ret (k_seq_ret (k_blk_ret (k_seq_ret (k_rnd_ret2 (k_blk_ret (k_seq_ret (k_fin ?_))))))))))
 cases hF10
 exact ends_a [] [] Tryz.results170
 refine s_fa yF27_4 ?_
 refine s_ld1 yA25 ?_
 refine s_mv ?_
 refine s_sub rfl ?_
 obtain ⟨v13, hv13, hF11⟩ := bind_some' hF10
 refine s_ixT Form.row hv13 (Form.row_eq _) yE25 ?_
 refine s_ldN yA27 yS27 ?_
 obtain ⟨v14, hv14, hF12⟩ := bind_some' hF11
 refine s_pure [] (m_spec_l4Dots_ok fu _ _ hv14) ?_
 refine s_pkf ?_
 refine k_nil (k_seq ?_)
 refine w_cond hF12 ?_ ?_ <;> intro hc15 hF13
 refine awp_seq (awp_region ?_)
 refine s_as ?_
 refine k_nil (k_seq (awp_ret (k_seq_ret (k_seq_ret (k_blk_ret (k_seq_ret (k_rnd_ret2 (k_blk_ret (k_seq_ret (k_fin ?_))))))))))
 cases hF13
 exact ends_a [] [] Tryz.results170
 refine awp_skip (k_seq (awp_exit (k_seq_exit (k_blk_exit (k_seq (awp_region ?_))))))
 refine s_mv ?_
 refine s_add (winc2 hc7 hb8 hn_g5) ?_
 refine s_as ?_
 refine k_nil ?_
 exact s_rn (fu, (g5 + 1)) ⟨by first | omega | (dsimp only; omega), hF13, by first | omega | (dsimp only; omega)⟩
 refine awp_skip (k_seq (awp_seq (awp_seq (awp_region ?_))))
 refine s_mv ?_
 refine s_add (winc2 hc7 hb8 hn_g5) ?_
 refine s_fa yF27_4 ?_
 refine s_ld1 yA25 ?_
 refine s_lenT yU25 ?_
 refine s_lt ?_
 refine s_mv ?_
 refine w_guard _ 44 hF9 ?_ ?_ <;> intro hc16 hF10
 refine s_fa yF27_4 ?_
 refine s_ld1 yA25 ?_
 refine s_mv ?_
 refine s_add (winc2 hc7 hb8 hn_g5) ?_
 obtain ⟨v17, hv17, hF11⟩ := bind_some' hF10
 refine s_ixT Form.row hv17 (Form.row_eq _) yE25 ?_
 refine s_ldN yA27 yS27 ?_
 obtain ⟨v18, hv18, hF12⟩ := bind_some' hF11
 refine s_pure [] (m_spec_l4Dots_ok fu _ _ hv18) ?_
 refine s_pkt ?_
 refine k_nil (k_seq ?_)
 refine w_cond hF12 ?_ ?_ <;> intro hc19 hF13
 refine awp_seq (awp_seq ?_)
 refine awp_draw yMix (by kernel_rfl) ?_
 refine s_mv ?_
 refine s_fa yF27_4 ?_
 refine s_ld1 yA25 ?_
 refine s_mv ?_
 obtain ⟨v20, hv20, hF14⟩ := bind_some' hF13
 refine s_ixT Form.row hv20 (Form.row_eq _) yE25 ?_
 refine s_ldN yA27 yS27 ?_
 obtain ⟨v21, hv21, hF15⟩ := bind_some' hF14
 refine s_pure [] (m_spec_l5Rows_ok fu _ _ _ hv21) ?_
 refine s_not ?_
 refine s_mv ?_
 refine w_guard _ 61 hF15 ?_ ?_ <;> intro hc22 hF16
 iterate 9 refine r_no rfl ?_
 refine s_pkt ?_
 refine k_nilD (by kernel_rfl) ?_
 refine k_seq (awp_true rfl (awp_seq (awp_region ?_)))
 refine s_as ?_
 refine k_nil (k_seq (awp_ret (k_seq_ret (k_seq_ret (k_blk_ret (k_seq_ret (k_rnd_ret2 (k_blk_ret (k_seq_ret (k_fin ?_))))))))))
 cases hF16
 exact ends_a [] [] Tryz.results170
 refine s_fa yF27_4 ?_
 refine s_ld1 yA25 ?_
 refine s_mv ?_
 obtain ⟨v23, hv23, hF17⟩ := bind_some' hF16
 refine s_ixT Form.row hv23 (Form.row_eq _) yE25 ?_
 refine s_ldN yA27 yS27 ?_
 refine s_mv ?_
 obtain ⟨v24, hv24, hF18⟩ := bind_some' hF17
 refine s_pure [] (m_spec_l5Less_ok fu _ _ hv24) ?_
 obtain ⟨v25, hv25, hF19⟩ := bind_some' hF18
 refine s_pure [] (ih_m_spec_l5Is fu (by omega) _ _ _ hv25) ?_
 refine s_not ?_
 refine s_pkf ?_
 refine k_nilD (by kernel_rfl) ?_
 refine k_seq ?_
 refine w_cond hF19 ?_ ?_ <;> intro hc26 hF20
 refine awp_seq (awp_region ?_)
 refine s_as ?_
 refine k_nil (k_seq (awp_ret (k_seq_ret (k_seq_ret (k_blk_ret (k_seq_ret (k_rnd_ret2 (k_blk_ret (k_seq_ret (k_fin ?_))))))))))
 cases hF20
 exact ends_a [] [] Tryz.results170
 refine awp_skip (k_seq (awp_exit (k_seq_exit (k_blk_exit (k_seq (awp_region ?_))))))
 refine s_mv ?_
 refine s_add (winc2 hc7 hb8 hn_g5) ?_
 refine s_as ?_
 refine k_nil ?_
 exact s_rn (fu, (g5 + 1)) ⟨by first | omega | (dsimp only; omega), hF20, by first | omega | (dsimp only; omega)⟩
 refine awp_skip (k_seq (awp_seq (awp_region ?_)))
 refine s_fa yF27_4 ?_
 refine s_ld1 yA25 ?_
 refine s_mv ?_
 obtain ⟨v27, hv27, hF14⟩ := bind_some' hF13
 refine s_ixT Form.row hv27 (Form.row_eq _) yE25 ?_
 refine s_ldN yA27 yS27 ?_
 refine s_mv ?_
 obtain ⟨v28, hv28, hF15⟩ := bind_some' hF14
 refine s_pure [] (ih_m_spec_l5Is fu (by omega) _ _ _ hv28) ?_
 refine s_not ?_
 refine k_nil (k_seq ?_)
 refine w_cond hF15 ?_ ?_ <;> intro hc29 hF16
 refine awp_seq (awp_region ?_)
 refine s_as ?_
 refine k_nil (k_seq (awp_ret (k_blk_ret (k_seq_ret (k_rnd_ret2 (k_blk_ret (k_seq_ret (k_fin ?_))))))))
 cases hF16
 exact ends_a [] [] Tryz.results170
 refine awp_skip (k_blk (k_seq (awp_region ?_)))
 refine s_mv ?_
 refine s_add (winc2 hc7 hb8 hn_g5) ?_
 refine s_as ?_
 refine k_nil ?_
 exact s_rn (fu, (g5 + 1)) ⟨by first | omega | (dsimp only; omega), hF16, by first | omega | (dsimp only; omega)⟩
 iterate 7 refine r_no rfl ?_
 refine s_pkf ?_
 refine k_nil (k_seq (awp_false rfl (awp_skip (k_seq (awp_seq (awp_region ?_))))))
 refine s_fa yF27_4 ?_
 refine s_ld1 yA25 ?_
 refine s_mv ?_
 obtain ⟨v30, hv30, hF11⟩ := bind_some' hF10
 refine s_ixT Form.row hv30 (Form.row_eq _) yE25 ?_
 refine s_ldN yA27 yS27 ?_
 refine s_mv ?_
 obtain ⟨v31, hv31, hF12⟩ := bind_some' hF11
 refine s_pure [] (ih_m_spec_l5Is fu (by omega) _ _ _ hv31) ?_
 refine s_not ?_
 refine k_nil (k_seq ?_)
 refine w_cond hF12 ?_ ?_ <;> intro hc32 hF13
 refine awp_seq (awp_region ?_)
 refine s_as ?_
 refine k_nil (k_seq (awp_ret (k_blk_ret (k_seq_ret (k_rnd_ret2 (k_blk_ret (k_seq_ret (k_fin ?_))))))))
 cases hF13
 exact ends_a [] [] Tryz.results170
 refine awp_skip (k_blk (k_seq (awp_region ?_)))
 refine s_mv ?_
 refine s_add (winc2 hc7 hb8 hn_g5) ?_
 refine s_as ?_
 refine k_nil ?_
 exact s_rn (fu, (g5 + 1)) ⟨by first | omega | (dsimp only; omega), hF13, by first | omega | (dsimp only; omega)⟩
 refine awp_exit (k_seq_exit (k_rnd_exit2 (k_blk_exit (k_seq (awp_seq (awp_region ?_))))))
 refine s_as ?_
 refine k_nil (k_seq (awp_ret (k_fin ?_)))
 cases hF6
 exact ends_a [] [] Tryz.results170
end Go.Abs
