/- A part of the proof: what the functions that the law calls answer, as pure values. -/
import Derived.Test.YtjjjnhpghhamkaaGreatK07f4536f4c0e
import Derived.Test.YtjjjnhpghhamkaaGreatK161bcd710c75
import Derived.Test.YtjjjnhpghhamkaaGreatK2476cfca71b3
import Derived.Test.YtjjjnhpghhamkaaGreatK2b8aa7c9ac66
import Derived.Test.YtjjjnhpghhamkaaGreatK48ea3fb19802
import Derived.Test.YtjjjnhpghhamkaaGreatKafa8693ac472
import Derived.Test.YtjjjnhpghhamkaaGreatKc62a6f70b8f5
set_option linter.unusedSimpArgs false
set_option linter.unusedVariables false
set_option maxRecDepth 100000
set_option maxHeartbeats 4000000
namespace Go.Abs
open Go.Proofs
theorem m_impl_general_all (fuel : Nat) : m_impl_general_AC fuel := by
 induction fuel using Nat.strongRecOn with
 | _ N ih =>
   cases N with
   | zero => exact (by intro x1 x2 x3 r h; rw [m_impl_general] at h; cases h)
   | succ fu => exact m_impl_general_st fu (fun k hk => (ih k (by omega)))
theorem m_impl_general_ok (fuel : Nat) : m_impl_general_AC fuel := (m_impl_general_all fuel)
def m_impl_DeadRules_1_AC (fuel : Nat) : Prop := ∀ (x1 : Rule) (o1 : Rule) (o2 : (List Form)) (r : Bool), m_impl_DeadRules_1 fuel x1 o1 o2 = some r → AC Tryz.prog 105 [.ag [.t (.sc (.int .i64 x1.pattern.kind)), .t (.sc (.str x1.pattern.name)), .t (.sc (.int .i64 x1.pattern.n)), .t (.sl (x1.pattern.scopes.map rI)), .t (.sl (x1.pattern.kids.map Form.row)), .t (.sc (.int .i64 x1.template.kind)), .t (.sc (.str x1.template.name)), .t (.sc (.int .i64 x1.template.n)), .t (.sl (x1.template.scopes.map rI)), .t (.sl (x1.template.kids.map Form.row))], .rf 9000 0, .rf 9001 0] (objs [(9000, .box [.t (.sc (.int .i64 o1.pattern.kind)), .t (.sc (.str o1.pattern.name)), .t (.sc (.int .i64 o1.pattern.n)), .t (.sl (o1.pattern.scopes.map rI)), .t (.sl (o1.pattern.kids.map Form.row)), .t (.sc (.int .i64 o1.template.kind)), .t (.sc (.str o1.template.name)), .t (.sc (.int .i64 o1.template.n)), .t (.sl (o1.template.scopes.map rI)), .t (.sl (o1.template.kids.map Form.row))]), (9001, .box [.t (.sl (o2.map Form.row))])]) (.t (.sc (.bool r))) (objs [(9000, .box [.t (.sc (.int .i64 o1.pattern.kind)), .t (.sc (.str o1.pattern.name)), .t (.sc (.int .i64 o1.pattern.n)), .t (.sl (o1.pattern.scopes.map rI)), .t (.sl (o1.pattern.kids.map Form.row)), .t (.sc (.int .i64 o1.template.kind)), .t (.sc (.str o1.template.name)), .t (.sc (.int .i64 o1.template.n)), .t (.sl (o1.template.scopes.map rI)), .t (.sl (o1.template.kids.map Form.row))]), (9001, .box [.t (.sl (o2.map Form.row))])])
theorem m_impl_DeadRules_1_ok (fuel : Nat) : m_impl_DeadRules_1_AC fuel := by
 intro x1 o1 o2 r hF0
 unfold m_impl_DeadRules_1 at hF0
 refine AC_i [.t (.sc (.bool r))] Tryz.func105 rfl Tryz.ntmps105 ?_
 intro C hC
 refine awp_seq (awp_region ?_)
 refine s_box ?_
 refine s_as ?_
 refine k_nil (k_seq (awp_seq (awp_region ?_)))
 refine s_fa yF73_0 ?_
 refine s_ldN yA27 yS27 ?_
 refine s_fa yF73_0 ?_
 refine s_ldN yA27 yS27 ?_
 refine s_ld1 yA25 ?_
 obtain ⟨v1, hv1, hF1⟩ := bind_some' hF0
 refine s_pure [] (m_impl_general_ok fuel _ _ _ _ hv1) ?_
 refine s_as ?_
 refine k_nil (k_seq (awp_ret (k_fin ?_)))
 cases hF1
 exact ends_a _ [] Tryz.results105
def m_slices_IndexFunc_Rule_DeadRules_1_AC (fuel : Nat) : Prop := ∀ (x1 : (List Rule)) (o1 : Rule) (o2 : (List Form)) (r : Int), m_slices_IndexFunc_Rule_DeadRules_1 fuel x1 o1 o2 = some r → AC Tryz.prog 159 [.t (.sl (x1.map Rule.row)), .fn 105 [.rf 9000 0, .rf 9001 0]] (objs [(9000, .box [.t (.sc (.int .i64 o1.pattern.kind)), .t (.sc (.str o1.pattern.name)), .t (.sc (.int .i64 o1.pattern.n)), .t (.sl (o1.pattern.scopes.map rI)), .t (.sl (o1.pattern.kids.map Form.row)), .t (.sc (.int .i64 o1.template.kind)), .t (.sc (.str o1.template.name)), .t (.sc (.int .i64 o1.template.n)), .t (.sl (o1.template.scopes.map rI)), .t (.sl (o1.template.kids.map Form.row))]), (9001, .box [.t (.sl (o2.map Form.row))])]) (.t (.sc (.int .i64 r))) (objs [(9000, .box [.t (.sc (.int .i64 o1.pattern.kind)), .t (.sc (.str o1.pattern.name)), .t (.sc (.int .i64 o1.pattern.n)), .t (.sl (o1.pattern.scopes.map rI)), .t (.sl (o1.pattern.kids.map Form.row)), .t (.sc (.int .i64 o1.template.kind)), .t (.sc (.str o1.template.name)), .t (.sc (.int .i64 o1.template.n)), .t (.sl (o1.template.scopes.map rI)), .t (.sl (o1.template.kids.map Form.row))]), (9001, .box [.t (.sl (o2.map Form.row))])])
theorem m_slices_IndexFunc_Rule_DeadRules_1_ok (fuel : Nat) : m_slices_IndexFunc_Rule_DeadRules_1_AC fuel := by
 intro x1 o1 o2 r hF0
 unfold m_slices_IndexFunc_Rule_DeadRules_1 at hF0
 refine AC_i [.t (.sc (.int .i64 r))] Tryz.func159 rfl Tryz.ntmps159 ?_
 intro C hC
 refine awp_seq (awp_region ?_)
 refine s_as ?_
 refine k_nil (k_seq (awp_seq (awp_seq (awp_region ?_))))
 refine s_mv ?_
 refine s_lenT yU62 ?_
 refine s_mv ?_
 refine k_nil (k_seq (awp_block ?_))
 refine awp_fr (β := Int) [4, 5, 8, 9, 10, 11, 12, 13, 14, 15, 16, 17, 18] [] [] (fun a => [(8, .t (.sc (.int .i64 a.2)))]) (fun a => []) (fun a => a.1 ≤ fuel ∧ m_slices_IndexFunc_Rule_DeadRules_1_l1 a.1 x1 o1 o2 a.2 = some r ∧ 0 ≤ a.2) (fuel, 0) ⟨Nat.le_refl _, hF0, by simp⟩ ?_
 clear hF0
 rintro ⟨fu, g1⟩ ⟨hl2, hF1, hn_g1⟩
 dsimp only at hl2 hF1 hn_g1 ⊢
 obtain _ | fu := fu
 · rw [m_slices_IndexFunc_Rule_DeadRules_1_l1] at hF1; cases hF1
 rw [m_slices_IndexFunc_Rule_DeadRules_1_l1] at hF1
 refine awp_seq (awp_region ?_)
 refine s_lt ?_
 refine k_nil (k_seq (awp_seq ?_))
 refine w_cond hF1 ?_ ?_ <;> intro hc3 hF2
 refine awp_lenT 0 (fun hb4 => ?_)
 refine awp_skip (k_seq (awp_seq (awp_block (awp_seq (awp_region ?_)))))
 refine s_mv ?_
 refine s_as ?_
 refine k_nil (k_seq (awp_seq (awp_region ?_)))
 iterate 3 refine s_mv ?_
 obtain ⟨v5, hv5, hF3⟩ := bind_some' hF2
 refine s_ixT Rule.row hv5 (Rule.row_eq _) yE62 ?_
 refine s_ldN yA73 yS73 ?_
 obtain ⟨v6, hv6, hF4⟩ := bind_some' hF3
 refine s_call [(9000, 9000), (9001, 9001)] [] _ _ (m_impl_DeadRules_1_ok fu _ _ _ _ hv6) ?_
 refine k_nil (k_seq ?_)
 refine w_cond hF4 ?_ ?_ <;> intro hc7 hF5
 refine awp_seq (awp_region ?_)
 refine s_mv ?_
 refine s_as ?_
 refine k_nil (k_seq (awp_ret (k_blk_ret (k_seq_ret (k_rnd_ret2 (k_blk_ret (k_seq_ret (k_fin ?_))))))))
 cases hF5
 exact ends_a _ [] Tryz.results159
 refine awp_skip (k_blk (k_seq (awp_region ?_)))
 refine s_add (winc2 hc3 hb4 hn_g1) ?_
 refine s_mv ?_
 refine k_nil ?_
 exact s_rn (fu, (g1 + 1)) ⟨by first | omega | (dsimp only; omega), hF5, by first | omega | (dsimp only; omega)⟩
 refine awp_exit (k_seq_exit (k_rnd_exit2 (k_blk_exit (k_seq (awp_seq (awp_region ?_))))))
 refine s_as ?_
 refine k_nil (k_seq (awp_ret (k_fin ?_)))
 cases hF2
 exact ends_a _ [] Tryz.results159
def m_slices_ContainsFunc_Rule_DeadRules_1_AC (fuel : Nat) : Prop := ∀ (x1 : (List Rule)) (o1 : Rule) (o2 : (List Form)) (r : Bool), m_slices_ContainsFunc_Rule_DeadRules_1 fuel x1 o1 o2 = some r → AC Tryz.prog 104 [.t (.sl (x1.map Rule.row)), .fn 105 [.rf 9000 0, .rf 9001 0]] (objs [(9000, .box [.t (.sc (.int .i64 o1.pattern.kind)), .t (.sc (.str o1.pattern.name)), .t (.sc (.int .i64 o1.pattern.n)), .t (.sl (o1.pattern.scopes.map rI)), .t (.sl (o1.pattern.kids.map Form.row)), .t (.sc (.int .i64 o1.template.kind)), .t (.sc (.str o1.template.name)), .t (.sc (.int .i64 o1.template.n)), .t (.sl (o1.template.scopes.map rI)), .t (.sl (o1.template.kids.map Form.row))]), (9001, .box [.t (.sl (o2.map Form.row))])]) (.t (.sc (.bool r))) (objs [(9000, .box [.t (.sc (.int .i64 o1.pattern.kind)), .t (.sc (.str o1.pattern.name)), .t (.sc (.int .i64 o1.pattern.n)), .t (.sl (o1.pattern.scopes.map rI)), .t (.sl (o1.pattern.kids.map Form.row)), .t (.sc (.int .i64 o1.template.kind)), .t (.sc (.str o1.template.name)), .t (.sc (.int .i64 o1.template.n)), .t (.sl (o1.template.scopes.map rI)), .t (.sl (o1.template.kids.map Form.row))]), (9001, .box [.t (.sl (o2.map Form.row))])])
theorem m_slices_ContainsFunc_Rule_DeadRules_1_ok (fuel : Nat) : m_slices_ContainsFunc_Rule_DeadRules_1_AC fuel := by
 intro x1 o1 o2 r hF0
 unfold m_slices_ContainsFunc_Rule_DeadRules_1 at hF0
 refine AC_i [.t (.sc (.bool r))] Tryz.func104 rfl Tryz.ntmps104 ?_
 intro C hC
 refine awp_seq (awp_region ?_)
 refine s_as ?_
 refine k_nil (k_seq (awp_seq (awp_region ?_)))
 refine s_mv ?_
 refine s_mv ?_
 obtain ⟨v1, hv1, hF1⟩ := bind_some' hF0
 refine s_call [(9000, 9000), (9001, 9001)] [] _ _ (m_slices_IndexFunc_Rule_DeadRules_1_ok fuel _ _ _ _ hv1) ?_
 refine s_ge ?_
 refine s_as ?_
 refine k_nil (k_seq (awp_ret (k_fin ?_)))
 cases hF1
 exact ends_a _ [] Tryz.results104
def m_impl_DeadRules_AC (fuel : Nat) : Prop := ∀ (x1 : (List Rule)) (x2 : (List Form)) (r : (List Int)), m_impl_DeadRules fuel x1 x2 = some r → AC Tryz.prog 46 [.t (.sl (x1.map Rule.row)), .t (.sl (x2.map Form.row))] noOb (.t (.sl (r.map rI))) noOb
theorem m_impl_DeadRules_ok (fuel : Nat) : m_impl_DeadRules_AC fuel := by
 intro x1 x2 r hF0
 unfold m_impl_DeadRules at hF0
 refine AC_i [.t (.sl (r.map rI))] Tryz.func46 rfl Tryz.ntmps46 ?_
 intro C hC
 refine awp_seq (awp_region ?_)
 refine s_box ?_
 refine s_as ?_
 refine k_nil (k_seq (awp_seq (awp_region ?_)))
 refine s_bs rI ([] : List Int) yP24 yR3 ?_
 refine s_as ?_
 refine k_nil (k_seq (awp_seq (awp_seq (awp_region ?_))))
 refine s_mv ?_
 refine s_ld1 yA25 ?_
 obtain ⟨v1, hv1, hF1⟩ := bind_some' hF0
 refine s_pure [] (m_impl_rulesOk_ok fuel _ _ _ hv1) ?_
 refine s_not ?_
 refine k_nil (k_seq ?_)
 refine w_cond hF1 ?_ ?_ <;> intro hc2 hF2
 refine awp_seq (awp_region ?_)
 refine s_mv ?_
 refine s_as ?_
 refine k_nil (k_seq (awp_ret (k_seq_ret (k_fin ?_))))
 cases hF2
 exact ends_a [] [8] Tryz.results46
 refine awp_skip (k_seq (awp_seq (awp_seq (awp_region ?_))))
 refine s_mv ?_
 refine s_lenT yU62 ?_
 refine s_mv ?_
 refine k_nil (k_seq (awp_block ?_))
 refine awp_mv 5 8 5020 (by conv => lhs; whnf) (by conv => lhs; whnf) rfl ?_
 refine awp_frame2 [5, 6, 7, 16, 17, 18, 19, 20, 21, 22, 23, 24, 25, 26, 27, 28, 29, 30] [5020] [7, 28, 29] [5020] (fun a : Nat × (List Int) × Int => a.1) (fun a : Nat × (List Int) × Int => [(5, .ar 5020), (16, .t (.sc (.int .i64 a.2.2)))]) (fun a : Nat × (List Int) × Int => [(5020, .arr (a.2.1.map rI) 3 true)]) (fun a : Nat × (List Int) × Int => a.1 ≤ fuel ∧ m_impl_DeadRules_l1 a.1 x1 x2 a.2.1 a.2.2 = some r ∧ 0 ≤ a.2.2) (fuel, ([] : List Int), 0) ⟨Nat.le_refl _, hF2, by simp⟩ (by rfl) (by rfl) (fun _ => rfl) (hasF_cons (by conv => lhs; whnf) (by rfl) (hasF_cons (by conv => lhs; whnf) (by rfl) hasF_nil)) (hasO_cons (by conv => lhs; whnf) (by rfl) hasO_nil) (fresh_C hC rfl) (by repeat (first | exact freshS_args rfl | refine freshS_upd rfl ?_ | refine freshS_frame rfl ?_)) (by repeat (first | exact freshM_no | exact objs_fresh rfl | refine freshM_upd rfl ?_ | refine freshM_frame rfl ?_)) ?_
 clear hF2
 rintro ⟨fu, g3, g4⟩ ⟨hl5, hF3, hn_g4⟩
 dsimp only at hl5 hF3 hn_g4 ⊢
 obtain _ | fu := fu
 · rw [m_impl_DeadRules_l1] at hF3; cases hF3
 rw [m_impl_DeadRules_l1] at hF3
 refine awp_seq (awp_region ?_)
 refine s_lt ?_
 refine k_nil (k_seq (awp_seq ?_))
 refine w_cond hF3 ?_ ?_ <;> intro hc6 hF4
 refine awp_lenT 0 (fun hb7 => ?_)
 refine awp_skip (k_seq (awp_seq (awp_block (awp_seq (awp_region ?_)))))
 refine s_mv ?_
 obtain ⟨v8, hv8, hF5⟩ := bind_some' hF4
 refine s_ixT Rule.row hv8 (Rule.row_eq _) yE62 ?_
 refine s_ldN yA73 yS73 ?_
 refine s_alloc yZ73 ?_
 refine s_as ?_
 refine s_stW yS73 ?_
 refine k_nil (k_seq (awp_seq (awp_region ?_)))
 refine s_mv ?_
 refine s_mv ?_
 obtain ⟨v9, hv9, hF6⟩ := bind_some' hF5
 refine s_sl01 Rule.row (fun y => Rule.row_len y) hv9 yU62 yE62 ?_
 refine s_fn ?_
 obtain ⟨v10, hv10, hF7⟩ := bind_some' hF6
 refine s_call [(9000, 7), (9001, 3)] [] _ _ (m_slices_ContainsFunc_Rule_DeadRules_1_ok fu _ _ _ _ hv10) ?_
 refine k_nil (k_seq ?_)
 refine w_cond hF7 ?_ ?_ <;> intro hc11 hF8
 refine awp_region ?_
 refine s_mv ?_
 refine s_mv ?_
 refine s_bs rI [g4] yP24 yR3 ?_
 obtain ⟨hk12, hF9⟩ := chk_some hF8
 refine s_apT rI (fun _ => rfl) hk12 yP24 ?_
 refine s_as ?_
 refine k_nil (k_blk (k_seq (awp_region ?_)))
 refine s_add (winc2 hc6 hb7 hn_g4) ?_
 refine s_mv ?_
 refine k_nil ?_
 exact s_rn (fu, (g3 ++ [g4]), (g4 + 1)) ⟨by first | omega | (dsimp only; omega), hF9, by first | omega | (dsimp only; omega)⟩ [(5020, 29)]
 refine awp_skip (k_blk (k_seq (awp_region ?_)))
 refine s_add (winc2 hc6 hb7 hn_g4) ?_
 refine s_mv ?_
 refine k_nil ?_
 exact s_rn (fu, g3, (g4 + 1)) ⟨by first | omega | (dsimp only; omega), hF8, by first | omega | (dsimp only; omega)⟩
 refine awp_exit (k_seq_exit (k_rnd_exit2 (k_blk_exit (k_seq (awp_seq (awp_region ?_))))))
 refine s_mv ?_
 refine s_as ?_
 refine k_nil (k_seq (awp_ret (k_fin ?_)))
 cases hF4
 exact ends_a [] [5020] Tryz.results46
def m_spec_l5General_AC (fuel : Nat) : Prop := ∀ (x1 : Form) (x2 : Form) (x3 : (List Form)) (r : Bool), m_spec_l5General fuel x1 x2 x3 = some r → AC Tryz.prog 107 [.ag [.t (.sc (.int .i64 x1.kind)), .t (.sc (.str x1.name)), .t (.sc (.int .i64 x1.n)), .t (.sl (x1.scopes.map rI)), .t (.sl (x1.kids.map Form.row))], .ag [.t (.sc (.int .i64 x2.kind)), .t (.sc (.str x2.name)), .t (.sc (.int .i64 x2.n)), .t (.sl (x2.scopes.map rI)), .t (.sl (x2.kids.map Form.row))], .t (.sl (x3.map Form.row))] noOb (.t (.sc (.bool r))) noOb
theorem m_spec_l5General_st (fu : Nat) (ih_m_spec_l5General : ∀ k, k ≤ fu → m_spec_l5General_AC k) : m_spec_l5General_AC (fu + 1) := by
 intro x1 x2 x3 r hF0
 rw [m_spec_l5General] at hF0
 refine AC_i [.t (.sc (.bool r))] Tryz.func107 rfl Tryz.ntmps107 ?_
 intro C hC
 refine awp_seq (awp_region ?_)
 refine s_box ?_
 refine s_box ?_
 refine s_as ?_
 refine k_nil (k_seq ?_)
 refine awp_jn (α := Nat) [6, 8, 9, 10, 11, 12, 13, 14, 15, 16, 17, 18, 19, 20, 21] [] [] (fun a => []) (fun a => []) (fun a => a ≤ fu ∧ m_spec_l5General_j1 a x1 x2 x3  = some r) ?_ ?_
 refine awp_seq (awp_region ?_)
 refine s_fa yF27_0 ?_
 refine s_ld1 yA3 ?_
 refine s_eq ?_
 refine s_mv ?_
 refine w_guard _ 11 hF0 ?_ ?_ <;> intro hc1 hF1
 refine s_fa yF27_1 ?_
 refine s_ld1 yA9 ?_
 refine s_neS ?_
 refine s_pkt ?_
 refine s_mv ?_
 refine w_guard _ 16 hF1 ?_ ?_ <;> intro hc2 hF2
 refine s_mv ?_
 refine s_ldW yA27 yS27 ?_
 obtain ⟨v3, hv3, hF3⟩ := bind_some' hF2
 refine s_pure [] (m_spec_l4In_ok fu _ _ _ hv3) ?_
 refine s_not ?_
 refine s_pkt ?_
 refine k_nil (k_seq ?_)
 refine w_cond hF3 ?_ ?_ <;> intro hc4 hF4
 refine awp_seq (awp_region ?_)
 refine s_as ?_
 refine k_nil (k_seq (awp_ret (k_jn_ret (k_fin ?_))))
 cases hF4
 exact ends_a [] [] Tryz.results107
 refine awp_skip ?_
 exact s_jn (fu) ⟨by first | omega | (dsimp only; omega), hF4⟩
 iterate 4 refine r_no rfl ?_
 refine s_pkf ?_
 refine k_nil (k_seq (awp_false rfl (awp_skip ?_)))
 exact s_jn (fu) ⟨by first | omega | (dsimp only; omega), hF2⟩
 iterate 3 refine r_no rfl ?_
 refine s_pkf ?_
 refine s_mv ?_
 iterate 4 refine r_no rfl ?_
 refine s_pkf ?_
 refine k_nil (k_seq (awp_false rfl (awp_skip ?_)))
 exact s_jn (fu) ⟨by first | omega | (dsimp only; omega), hF1⟩
 clear hF0
 rintro fu ⟨hl5, hF1⟩
 obtain _ | fu := fu
 · rw [m_spec_l5General_j1] at hF1; cases hF1
 rw [m_spec_l5General_j1] at hF1
 refine awp_seq (awp_seq (awp_region ?_))
 refine s_fa yF27_0 ?_
 refine s_ld1 yA3 ?_
 refine s_ne ?_
 refine k_nil (k_seq ?_)
 refine w_cond hF1 ?_ ?_ <;> intro hc6 hF2
 refine awp_seq (awp_region ?_)
 refine s_ldW yA27 yS27 ?_
 refine s_ldW yA27 yS27 ?_
 obtain ⟨v7, hv7, hF3⟩ := bind_some' hF2
 refine s_pure [] (m_spec_FormSame_ok fu _ _ _ hv7) ?_
 refine s_as ?_
 refine k_nil (k_seq (awp_ret (k_seq_ret (k_fin ?_))))
 cases hF3
 exact ends_a [] [] Tryz.results107
 refine awp_skip (k_seq (awp_seq ?_))
 refine awp_jn (α := Nat × Bool) [28, 29, 30, 31, 32, 33, 34, 35, 36, 37, 38, 39] [] [] (fun a => [(39, .t (.sc (.bool a.2)))]) (fun a => []) (fun a => a.1 ≤ fu ∧ m_spec_l5General_j2 a.1 x1 x2 x3 a.2 = some r) ?_ ?_
 refine awp_region ?_
 refine s_fa yF27_0 ?_
 refine s_ld1 yA3 ?_
 refine s_ne ?_
 refine s_mv ?_
 refine w_guard _ 31 hF2 ?_ ?_ <;> intro hc8 hF3
 iterate 7 refine r_no rfl ?_
 refine s_pkt ?_
 refine k_nil ?_
 exact s_jn (fu, true) ⟨by first | omega | (dsimp only; omega), hF3⟩
 refine s_fa yF27_4 ?_
 refine s_ld1 yA25 ?_
 refine s_lenT yU25 ?_
 refine s_fa yF27_4 ?_
 refine s_ld1 yA25 ?_
 refine s_lenT yU25 ?_
 refine s_ne ?_
 refine s_pkf ?_
 refine k_nil ?_
 exact s_jn (fu, (decide ((x1.kids.length : Int) ≠ (x2.kids.length : Int)))) ⟨by first | omega | (dsimp only; omega), hF3⟩
 clear hF2
 rintro ⟨fu, g9⟩ ⟨hl10, hF3⟩
 dsimp only at hl10 hF3 ⊢
 obtain _ | fu := fu
 · rw [m_spec_l5General_j2] at hF3; cases hF3
 rw [m_spec_l5General_j2] at hF3
 refine w_cond hF3 ?_ ?_ <;> intro hc11 hF4
 refine awp_seq (awp_region ?_)
 refine s_as ?_
 refine k_nil (k_seq (awp_ret (k_seq_ret (k_fin ?_))))
 cases hF4
 exact ends_a [] [] Tryz.results107
 refine awp_skip (k_seq (awp_seq (awp_seq (awp_region ?_))))
 refine s_as ?_
 refine k_nil (k_seq (awp_block ?_))
 refine awp_fr (β := Int) [6, 7, 40, 41, 42, 43, 44, 45, 46, 47, 48, 49, 50, 51, 52, 53, 54, 55, 56, 57, 58, 59, 60, 61, 62, 63, 64, 65, 66, 67, 68, 69, 70, 71, 72, 73, 74, 75, 76, 77, 78, 79, 80, 81, 82, 83] [] [] (fun a => [(7, .t (.sc (.int .i64 a.2)))]) (fun a => []) (fun a => a.1 ≤ fu ∧ m_spec_l5General_l3 a.1 x1 x2 x3 a.2 = some r ∧ 0 ≤ a.2) (fu, 0) ⟨Nat.le_refl _, hF4, by simp⟩ ?_
 clear hF4
 rintro ⟨fu, g12⟩ ⟨hl13, hF5, hn_g12⟩
 dsimp only at hl13 hF5 hn_g12 ⊢
 obtain _ | fu := fu
 · rw [m_spec_l5General_l3] at hF5; cases hF5
 rw [m_spec_l5General_l3] at hF5
 refine awp_seq (awp_seq (awp_region ?_))
 refine s_mv ?_
 refine s_fa yF27_4 ?_
 refine s_ld1 yA25 ?_
 refine s_lenT yU25 ?_
 refine s_lt ?_
 refine k_nil (k_seq ?_)
 refine w_cond hF5 ?_ ?_ <;> intro hc14 hF6
 refine awp_lenT 42 (fun hb15 => ?_)
 refine awp_skip (k_seq (awp_seq (awp_block (awp_seq ?_))))
 refine awp_draw yMix (by kernel_rfl) ?_
 refine s_fa yF27_4 ?_
 refine s_ld1 yA25 ?_
 refine s_mv ?_
 obtain ⟨v16, hv16, hF7⟩ := bind_some' hF6
 refine s_ixT Form.row hv16 (Form.row_eq _) yE25 ?_
 refine s_ldN yA27 yS27 ?_
 obtain ⟨v17, hv17, hF8⟩ := bind_some' hF7
 refine s_pure [] (m_spec_l4Dots_ok fu _ _ hv17) ?_
 refine s_fa yF27_4 ?_
 refine s_ld1 yA25 ?_
 refine s_mv ?_
 obtain ⟨v18, hv18, hF9⟩ := bind_some' hF8
 refine s_ixT Form.row hv18 (Form.row_eq _) yE25 ?_
 refine s_ldN yA27 yS27 ?_
 obtain ⟨v19, hv19, hF10⟩ := bind_some' hF9
 refine s_pure [] (m_spec_l4Dots_ok fu _ _ hv19) ?_
 refine s_neB yU4 ?_
 refine s_mv ?_
 refine w_guard _ 60 hF10 ?_ ?_ <;> intro hc20 hF11
 iterate 22 refine r_no rfl ?_
 refine s_pkt ?_
 refine k_nilD (by kernel_rfl) ?_
 refine k_seq (awp_true rfl (awp_seq (awp_region ?_)))
 refine s_as ?_
 refine k_nil (k_seq (awp_ret (k_blk_ret (k_seq_ret (k_rnd_ret2 (k_blk_ret (k_seq_ret (k_fin ?_))))))))
 cases hF11
 exact ends_a [] [] Tryz.results107
 refine s_fa yF27_4 ?_
 refine s_ld1 yA25 ?_
 refine s_mv ?_
 obtain ⟨v21, hv21, hF12⟩ := bind_some' hF11
 refine s_ixT Form.row hv21 (Form.row_eq _) yE25 ?_
 refine s_ldN yA27 yS27 ?_
 obtain ⟨v22, hv22, hF13⟩ := bind_some' hF12
 refine s_pure [] (m_spec_l4Dots_ok fu _ _ hv22) ?_
 refine s_not ?_
 refine s_mv ?_
 refine w_guard _ 68 hF13 ?_ ?_ <;> intro hc23 hF14
 refine s_fa yF27_4 ?_
 refine s_ld1 yA25 ?_
 refine s_mv ?_
 obtain ⟨v24, hv24, hF15⟩ := bind_some' hF14
 refine s_ixT Form.row hv24 (Form.row_eq _) yE25 ?_
 refine s_ldN yA27 yS27 ?_
 refine s_fa yF27_4 ?_
 refine s_ld1 yA25 ?_
 refine s_mv ?_
 obtain ⟨v25, hv25, hF16⟩ := bind_some' hF15
 refine s_ixT Form.row hv25 (Form.row_eq _) yE25 ?_
 refine s_ldN yA27 yS27 ?_
 refine s_mv ?_
 obtain ⟨v26, hv26, hF17⟩ := bind_some' hF16
 refine s_pure [] (ih_m_spec_l5General fu (by omega) _ _ _ _ hv26) ?_
 refine s_not ?_
 refine s_pkt ?_
 refine s_pkf ?_
 refine k_nilD (by kernel_rfl) ?_
 refine k_seq ?_
 refine w_cond hF17 ?_ ?_ <;> intro hc27 hF18
 refine awp_seq (awp_region ?_)
 refine s_as ?_
 refine k_nil (k_seq (awp_ret (k_blk_ret (k_seq_ret (k_rnd_ret2 (k_blk_ret (k_seq_ret (k_fin ?_))))))))
 cases hF18
 exact ends_a [] [] Tryz.results107
 refine awp_skip (k_blk (k_seq (awp_region ?_)))
 refine s_mv ?_
 refine s_add (winc2 hc14 hb15 hn_g12) ?_
 refine s_as ?_
 refine k_nil ?_
 exact s_rn (fu, (g12 + 1)) ⟨by first | omega | (dsimp only; omega), hF18, by first | omega | (dsimp only; omega)⟩
 iterate 13 refine r_no rfl ?_
 refine s_pkf ?_
 refine s_pkf ?_
 refine k_nilD (by kernel_rfl) ?_
 refine k_seq (awp_false rfl (awp_skip (k_blk (k_seq (awp_region ?_)))))
 refine s_mv ?_
 refine s_add (winc2 hc14 hb15 hn_g12) ?_
 refine s_as ?_
 refine k_nil ?_
 exact s_rn (fu, (g12 + 1)) ⟨by first | omega | (dsimp only; omega), hF14, by first | omega | (dsimp only; omega)⟩
 refine awp_exit (k_seq_exit (k_rnd_exit2 (k_blk_exit (k_seq (awp_seq (awp_region ?_))))))
 refine s_as ?_
 refine k_nil (k_seq (awp_ret (k_fin ?_)))
 cases hF6
 exact ends_a [] [] Tryz.results107
theorem m_spec_l5General_all (fuel : Nat) : m_spec_l5General_AC fuel := by
 induction fuel using Nat.strongRecOn with
 | _ N ih =>
   cases N with
   | zero => exact (by intro x1 x2 x3 r h; rw [m_spec_l5General] at h; cases h)
   | succ fu => exact m_spec_l5General_st fu (fun k hk => (ih k (by omega)))
theorem m_spec_l5General_ok (fuel : Nat) : m_spec_l5General_AC fuel := (m_spec_l5General_all fuel)
def m_spec_DeadRules_AC (fuel : Nat) : Prop := ∀ (x1 : (List Rule)) (x2 : (List Form)) (r : (List Int)), m_spec_DeadRules fuel x1 x2 = some r → AC Tryz.prog 48 [.t (.sl (x1.map Rule.row)), .t (.sl (x2.map Form.row))] noOb (.t (.sl (r.map rI))) noOb
theorem m_spec_DeadRules_ok (fuel : Nat) : m_spec_DeadRules_AC fuel := by
 intro x1 x2 r hF0
 unfold m_spec_DeadRules at hF0
 refine AC_i [.t (.sl (r.map rI))] Tryz.func48 rfl Tryz.ntmps48 ?_
 intro C hC
 refine awp_seq (awp_region ?_)
 refine s_as ?_
 refine k_nil (k_seq (awp_seq (awp_region ?_)))
 refine s_bs rI ([] : List Int) yP24 yR3 ?_
 refine s_as ?_
 refine k_nil (k_seq (awp_seq (awp_seq (awp_region ?_))))
 refine s_as ?_
 refine k_nil (k_seq (awp_block ?_))
 refine awp_mv 5 9 5020 (by conv => lhs; whnf) (by conv => lhs; whnf) rfl ?_
 refine awp_frame2 [5, 6, 7, 8, 10, 11, 12, 13, 14, 15, 16, 17, 18, 19, 20, 21, 22, 23, 24, 25, 26, 27, 28, 29, 30, 31, 32, 33, 34, 35, 36, 37, 38, 39, 40, 41, 42, 43, 44, 45, 46] [5020] [45, 46] [5020] (fun a : Nat × (List Int) × Int => a.1) (fun a : Nat × (List Int) × Int => [(5, .ar 5020), (6, .t (.sc (.int .i64 a.2.2)))]) (fun a : Nat × (List Int) × Int => [(5020, .arr (a.2.1.map rI) 3 true)]) (fun a : Nat × (List Int) × Int => a.1 ≤ fuel ∧ m_spec_DeadRules_l1 a.1 x1 x2 a.2.1 a.2.2 = some r) (fuel, ([] : List Int), 0) ⟨Nat.le_refl _, hF0⟩ (by rfl) (by rfl) (fun _ => rfl) (hasF_cons (by conv => lhs; whnf) (by rfl) (hasF_cons (by conv => lhs; whnf) (by rfl) hasF_nil)) (hasO_cons (by conv => lhs; whnf) (by rfl) hasO_nil) (fresh_C hC rfl) (by repeat (first | exact freshS_args rfl | refine freshS_upd rfl ?_ | refine freshS_frame rfl ?_)) (by repeat (first | exact freshM_no | exact objs_fresh rfl | refine freshM_upd rfl ?_ | refine freshM_frame rfl ?_)) ?_
 clear hF0
 rintro ⟨fu, g1, g2⟩ ⟨hl3, hF1⟩
 dsimp only at hl3 hF1 ⊢
 obtain _ | fu := fu
 · rw [m_spec_DeadRules_l1] at hF1; cases hF1
 rw [m_spec_DeadRules_l1] at hF1
 refine awp_seq ?_
 refine awp_jn (α := Nat × Bool) [10, 11, 12, 13, 14, 15, 16, 17, 18] [] [] (fun a => [(18, .t (.sc (.bool a.2)))]) (fun a => []) (fun a => a.1 ≤ fu ∧ m_spec_DeadRules_j2 a.1 x1 x2 g1 g2 a.2 = some r) ?_ ?_
 refine awp_region ?_
 refine s_mv ?_
 refine s_mv ?_
 refine s_lenT yU62 ?_
 refine s_lt ?_
 refine s_mv ?_
 refine w_guard _ 14 hF1 ?_ ?_ <;> intro hc4 hF2
 refine s_mv ?_
 refine s_mv ?_
 obtain ⟨v5, hv5, hF3⟩ := bind_some' hF2
 refine s_pure [] (m_spec_l5Rules_ok fu _ _ _ hv5) ?_
 refine s_pkt ?_
 refine k_nil ?_
 exact s_jn (fu, v5) ⟨by first | omega | (dsimp only; omega), hF3⟩
 iterate 3 refine r_no rfl ?_
 refine s_pkf ?_
 refine k_nil ?_
 exact s_jn (fu, false) ⟨by first | omega | (dsimp only; omega), hF2⟩
 clear hF1
 rintro ⟨fu, g6⟩ ⟨hl7, hF2⟩
 dsimp only at hl7 hF2 ⊢
 obtain _ | fu := fu
 · rw [m_spec_DeadRules_j2] at hF2; cases hF2
 rw [m_spec_DeadRules_j2] at hF2
 refine w_cond hF2 ?_ ?_ <;> intro hc8 hF3
 refine awp_skip (k_seq (awp_seq (awp_block (awp_seq (awp_region ?_)))))
 refine s_as ?_
 refine k_nil (k_seq ?_)
 refine awp_jn (α := Nat × Bool) [7, 8, 21, 22, 23, 24, 25, 26, 27, 28, 29, 30, 31, 32, 33, 34, 35, 36, 37, 38, 39, 40, 41] [] [] (fun a => [(7, .t (.sc (.bool a.2)))]) (fun a => []) (fun a => a.1 ≤ fu ∧ m_spec_DeadRules_j3 a.1 x1 x2 g1 g2 a.2 = some r) ?_ ?_
 refine awp_seq (awp_region ?_)
 refine s_as ?_
 refine k_nil (k_seq (awp_block ?_))
 refine awp_fr (β := Bool × Int) [7, 8, 21, 22, 23, 24, 25, 26, 27, 28, 29, 30, 31, 32, 33, 34, 35, 36, 37, 38, 39, 40, 41] [] [] (fun a => [(7, .t (.sc (.bool a.2.1))), (8, .t (.sc (.int .i64 a.2.2)))]) (fun a => []) (fun a => a.1 ≤ fu ∧ m_spec_DeadRules_l4 a.1 x1 x2 g1 g2 a.2.1 a.2.2 = some r) (fu, false, 0) ⟨Nat.le_refl _, hF3⟩ ?_
 clear hF3
 rintro ⟨fu, g9, g10⟩ ⟨hl11, hF4⟩
 dsimp only at hl11 hF4 ⊢
 obtain _ | fu := fu
 · rw [m_spec_DeadRules_l4] at hF4; cases hF4
 rw [m_spec_DeadRules_l4] at hF4
 refine awp_seq ?_
 refine awp_jn (α := Nat × Bool) [21, 22, 23, 24, 25, 26, 27] [] [] (fun a => [(27, .t (.sc (.bool a.2)))]) (fun a => []) (fun a => a.1 ≤ fu ∧ m_spec_DeadRules_j5 a.1 x1 x2 g1 g2 g9 g10 a.2 = some r) ?_ ?_
 refine awp_region ?_
 refine s_mv ?_
 refine s_mv ?_
 refine s_lt ?_
 refine s_mv ?_
 refine w_guard _ 24 hF4 ?_ ?_ <;> intro hc12 hF5
 refine s_mv ?_
 refine s_not ?_
 refine s_pkt ?_
 refine k_nil ?_
 exact s_jn (fu, (!g9)) ⟨by first | omega | (dsimp only; omega), hF5⟩
 refine r_no rfl (r_no rfl ?_)
 refine s_pkf ?_
 refine k_nil ?_
 exact s_jn (fu, false) ⟨by first | omega | (dsimp only; omega), hF5⟩
 clear hF4
 rintro ⟨fu, g13⟩ ⟨hl14, hF5⟩
 dsimp only at hl14 hF5 ⊢
 obtain _ | fu := fu
 · rw [m_spec_DeadRules_j5] at hF5; cases hF5
 rw [m_spec_DeadRules_j5] at hF5
 refine w_cond hF5 ?_ ?_ <;> intro hc15 hF6
 refine awp_skip (k_seq (awp_seq (awp_block ?_)))
 refine awp_draw yMix (by kernel_rfl) ?_
 refine s_mv ?_
 refine s_mv ?_
 obtain ⟨v16, hv16, hF7⟩ := bind_some' hF6
 refine s_ixT Rule.row hv16 (Rule.row_eq _) yE62 ?_
 refine s_fa yF73_0 ?_
 refine s_ldN yA27 yS27 ?_
 refine s_mv ?_
 refine s_mv ?_
 obtain ⟨v17, hv17, hF8⟩ := bind_some' hF7
 refine s_ixT Rule.row hv17 (Rule.row_eq _) yE62 ?_
 refine s_fa yF73_0 ?_
 refine s_ldN yA27 yS27 ?_
 refine s_mv ?_
 obtain ⟨v18, hv18, hF9⟩ := bind_some' hF8
 refine s_pure [] (m_spec_l5General_ok fu _ _ _ _ hv18) ?_
 refine s_as ?_
 refine k_nilD (by kernel_rfl) ?_
 refine k_blk (k_seq (awp_region ?_))
 refine s_mv ?_
 refine s_add rfl ?_
 refine s_as ?_
 refine k_nil ?_
 exact s_rn (fu, v18, (w64 (g10 + 1))) ⟨by first | omega | (dsimp only; omega), hF9⟩
 refine awp_exit (k_seq_exit (k_rnd_exit2 (k_blk_exit ?_)))
 exact s_jn (fu, g9) ⟨by first | omega | (dsimp only; omega), hF6⟩
 clear hF3
 rintro ⟨fu, g19⟩ ⟨hl20, hF4⟩
 dsimp only at hl20 hF4 ⊢
 obtain _ | fu := fu
 · rw [m_spec_DeadRules_j3] at hF4; cases hF4
 rw [m_spec_DeadRules_j3] at hF4
 refine awp_seq (awp_region ?_)
 refine s_mv ?_
 refine k_nil (k_seq ?_)
 refine w_cond hF4 ?_ ?_ <;> intro hc21 hF5
 refine awp_region ?_
 refine s_mv ?_
 refine s_mv ?_
 refine s_bs rI [g2] yP24 yR3 ?_
 obtain ⟨hk22, hF6⟩ := chk_some hF5
 refine s_apT rI (fun _ => rfl) hk22 yP24 ?_
 refine s_as ?_
 refine k_nil (k_blk (k_seq (awp_region ?_)))
 refine s_mv ?_
 refine s_add rfl ?_
 refine s_as ?_
 refine k_nil ?_
 exact s_rn (fu, (g1 ++ [g2]), (w64 (g2 + 1))) ⟨by first | omega | (dsimp only; omega), hF6⟩ [(5020, 46)]
 refine awp_skip (k_blk (k_seq (awp_region ?_)))
 refine s_mv ?_
 refine s_add rfl ?_
 refine s_as ?_
 refine k_nil ?_
 exact s_rn (fu, g1, (w64 (g2 + 1))) ⟨by first | omega | (dsimp only; omega), hF5⟩
 refine awp_exit (k_seq_exit (k_rnd_exit2 (k_blk_exit (k_seq (awp_seq (awp_region ?_))))))
 refine s_mv ?_
 refine s_as ?_
 refine k_nil (k_seq (awp_ret (k_fin ?_)))
 cases hF3
 exact ends_a [] [5020] Tryz.results48
def m_laws_mxInts_AC (fuel : Nat) : Prop := ∀ (x1 : (List Int)) (x2 : (List Int)) (r : Bool), m_laws_mxInts fuel x1 x2 = some r → AC Tryz.prog 47 [.t (.sl (x1.map rI)), .t (.sl (x2.map rI))] noOb (.t (.sc (.bool r))) noOb
theorem m_laws_mxInts_ok (fuel : Nat) : m_laws_mxInts_AC fuel := by
 intro x1 x2 r hF0
 unfold m_laws_mxInts at hF0
 refine AC_i [.t (.sc (.bool r))] Tryz.func47 rfl Tryz.ntmps47 ?_
 intro C hC
 refine awp_seq (awp_region ?_)
 refine s_as ?_
 refine k_nil (k_seq (awp_seq (awp_seq (awp_region ?_))))
 refine s_mv ?_
 refine s_lenT yU24 ?_
 refine s_mv ?_
 refine s_lenT yU24 ?_
 refine s_ne ?_
 refine k_nil (k_seq ?_)
 refine w_cond hF0 ?_ ?_ <;> intro hc1 hF1
 refine awp_seq (awp_region ?_)
 refine s_as ?_
 refine k_nil (k_seq (awp_ret (k_seq_ret (k_fin ?_))))
 cases hF1
 exact ends_a [] [] Tryz.results47
 refine awp_skip (k_seq (awp_seq (awp_seq (awp_region ?_))))
 refine s_as ?_
 refine k_nil (k_seq (awp_block ?_))
 refine awp_fr (β := Int) [4, 5, 11, 12, 13, 14, 15, 16, 17, 18, 19, 20, 21, 22, 23, 24, 25] [] [] (fun a => [(5, .t (.sc (.int .i64 a.2)))]) (fun a => []) (fun a => a.1 ≤ fuel ∧ m_laws_mxInts_l1 a.1 x1 x2 a.2 = some r ∧ 0 ≤ a.2) (fuel, 0) ⟨Nat.le_refl _, hF1, by simp⟩ ?_
 clear hF1
 rintro ⟨fu, g2⟩ ⟨hl3, hF2, hn_g2⟩
 dsimp only at hl3 hF2 hn_g2 ⊢
 obtain _ | fu := fu
 · rw [m_laws_mxInts_l1] at hF2; cases hF2
 rw [m_laws_mxInts_l1] at hF2
 refine awp_seq (awp_seq (awp_region ?_))
 refine s_mv ?_
 refine s_mv ?_
 refine s_lenT yU24 ?_
 refine s_lt ?_
 refine k_nil (k_seq ?_)
 refine w_cond hF2 ?_ ?_ <;> intro hc4 hF3
 refine awp_lenT 0 (fun hb5 => ?_)
 refine awp_skip (k_seq (awp_seq (awp_block (awp_seq ?_))))
 refine awp_draw yMix (by kernel_rfl) ?_
 refine s_mv ?_
 refine s_mv ?_
 obtain ⟨v6, hv6, hF4⟩ := bind_some' hF3
 refine s_ixT rI hv6 rfl yE24 ?_
 refine s_ld1 yA3 ?_
 refine s_mv ?_
 refine s_mv ?_
 obtain ⟨v7, hv7, hF5⟩ := bind_some' hF4
 refine s_ixT rI hv7 rfl yE24 ?_
 refine s_ld1 yA3 ?_
 refine s_ne ?_
 refine k_nilD (by kernel_rfl) ?_
 refine k_seq ?_
 refine w_cond hF5 ?_ ?_ <;> intro hc8 hF6
 refine awp_seq (awp_region ?_)
 refine s_as ?_
 refine k_nil (k_seq (awp_ret (k_blk_ret (k_seq_ret (k_rnd_ret2 (k_blk_ret (k_seq_ret (k_fin ?_))))))))
 cases hF6
 exact ends_a [] [] Tryz.results47
 refine awp_skip (k_blk (k_seq (awp_region ?_)))
 refine s_mv ?_
 refine s_add (winc2 hc4 hb5 hn_g2) ?_
 refine s_as ?_
 refine k_nil ?_
 exact s_rn (fu, (g2 + 1)) ⟨by first | omega | (dsimp only; omega), hF6, by first | omega | (dsimp only; omega)⟩
 refine awp_exit (k_seq_exit (k_rnd_exit2 (k_blk_exit (k_seq (awp_seq (awp_region ?_))))))
 refine s_as ?_
 refine k_nil (k_seq (awp_ret (k_fin ?_)))
 cases hF3
 exact ends_a [] [] Tryz.results47
def m_spec_DrawFirstRule_AC (fuel : Nat) : Prop := ∀ (x1 : (List Int)) (r : ((List Bind) × (List Rule) × (List Form) × Form)), m_spec_DrawFirstRule fuel x1 = some r → AC Tryz.prog 43 [.t (.sl (x1.map rB))] noOb (.tp [.t (.sl (r.1.map Bind.row)), .t (.sl (r.2.1.map Rule.row)), .t (.sl (r.2.2.1.map Form.row)), .ag [.t (.sc (.int .i64 r.2.2.2.kind)), .t (.sc (.str r.2.2.2.name)), .t (.sc (.int .i64 r.2.2.2.n)), .t (.sl (r.2.2.2.scopes.map rI)), .t (.sl (r.2.2.2.kids.map Form.row))]]) noOb
theorem m_spec_DrawFirstRule_ok (fuel : Nat) : m_spec_DrawFirstRule_AC fuel := by
 intro x1 r hF0
 unfold m_spec_DrawFirstRule at hF0
 refine AC_i [.t (.sl (r.1.map Bind.row)), .t (.sl (r.2.1.map Rule.row)), .t (.sl (r.2.2.1.map Form.row)), .ag [.t (.sc (.int .i64 r.2.2.2.kind)), .t (.sc (.str r.2.2.2.name)), .t (.sc (.int .i64 r.2.2.2.n)), .t (.sl (r.2.2.2.scopes.map rI)), .t (.sl (r.2.2.2.kids.map Form.row))]] Tryz.func43 rfl Tryz.ntmps43 ?_
 intro C hC
 refine awp_seq (awp_region ?_)
 iterate 3 refine s_as ?_
 refine s_alloc yZ27 ?_
 refine k_nil (k_seq (awp_seq (awp_region ?_)))
 refine s_mv ?_
 obtain ⟨v1, hv1, hF1⟩ := bind_some' hF0
 refine s_call [(9300, 2011)] [] _ _ (m_spec_l5Case_ok fuel _ _ hv1) ?_
 refine s_mv ?_
 iterate 3 refine s_ext ?_
 refine s_alloc yZ27 ?_
 refine s_as ?_
 refine s_as ?_
 refine s_stW yS27 ?_
 refine k_nil (k_seq (awp_seq ?_))
 refine awp_draw yMix (by kernel_rfl) ?_
 refine s_bs Bind.row ([] : List Bind) yP23 yR93 ?_
 refine s_mv ?_
 refine s_mv ?_
 refine s_ldW yA27 yS27 ?_
 iterate 3 refine s_as ?_
 refine s_stW yS27 ?_
 refine k_nilD (by kernel_rfl) ?_
 refine k_seq (awp_ret (k_fin ?_))
 cases hF1
 exact ends_gen [] [15, 2011] (by rw [Tryz.results43]; exact (res_tmp (by conv => lhs; whnf) (res_tmp (by conv => lhs; whnf) (res_tmp (by conv => lhs; whnf) (res_agg (by conv => lhs; whnf) (by conv => lhs; whnf) yA27 yS27 rfl res_nil)))))
def m_impl_BindsValid_1_AC (fuel : Nat) : Prop := ∀ (x1 : Bind) (o1 : Bind) (r : Bool), m_impl_BindsValid_1 fuel x1 o1 = some r → AC Tryz.prog 76 [.ag [.t (.sc (.str x1.name)), .t (.sl (x1.scopes.map rI)), .t (.sc (.int .i64 x1.id))], .rf 9000 0] (objs [(9000, .box [.t (.sc (.str o1.name)), .t (.sl (o1.scopes.map rI)), .t (.sc (.int .i64 o1.id))])]) (.t (.sc (.bool r))) (objs [(9000, .box [.t (.sc (.str o1.name)), .t (.sl (o1.scopes.map rI)), .t (.sc (.int .i64 o1.id))])])
theorem m_impl_BindsValid_1_ok (fuel : Nat) : m_impl_BindsValid_1_AC fuel := by
 intro x1 o1 r hF0
 unfold m_impl_BindsValid_1 at hF0
 refine AC_i [.t (.sc (.bool r))] Tryz.func76 rfl Tryz.ntmps76 ?_
 intro C hC
 refine awp_seq (awp_region ?_)
 refine s_box ?_
 refine s_as ?_
 refine k_nil (k_seq (awp_seq (awp_region ?_)))
 refine s_fa yF93_0 ?_
 refine s_ld1 yA9 ?_
 refine s_fa yF93_0 ?_
 refine s_ld1 yA9 ?_
 refine s_eqS ?_
 refine s_mv ?_
 refine w_guard _ 9 hF0 ?_ ?_ <;> intro hc1 hF1
 refine s_fa yF93_1 ?_
 refine s_ld1 yA24 ?_
 refine s_fa yF93_1 ?_
 refine s_ld1 yA24 ?_
 obtain ⟨v2, hv2, hF2⟩ := bind_some' hF1
 refine s_pure [] (m_slices_Equal_int_ok fuel _ _ _ hv2) ?_
 refine s_pkt ?_
 refine s_as ?_
 refine k_nil (k_seq (awp_ret (k_fin ?_)))
 cases hF2
 exact ends_a _ [] Tryz.results76
 iterate 5 refine r_no rfl ?_
 refine s_pkf ?_
 refine s_as ?_
 refine k_nil (k_seq (awp_ret (k_fin ?_)))
 cases hF1
 exact ends_a _ [] Tryz.results76
def m_slices_IndexFunc_Bind_BindsValid_1_AC (fuel : Nat) : Prop := ∀ (x1 : (List Bind)) (o1 : Bind) (r : Int), m_slices_IndexFunc_Bind_BindsValid_1 fuel x1 o1 = some r → AC Tryz.prog 144 [.t (.sl (x1.map Bind.row)), .fn 76 [.rf 9000 0]] (objs [(9000, .box [.t (.sc (.str o1.name)), .t (.sl (o1.scopes.map rI)), .t (.sc (.int .i64 o1.id))])]) (.t (.sc (.int .i64 r))) (objs [(9000, .box [.t (.sc (.str o1.name)), .t (.sl (o1.scopes.map rI)), .t (.sc (.int .i64 o1.id))])])
theorem m_slices_IndexFunc_Bind_BindsValid_1_ok (fuel : Nat) : m_slices_IndexFunc_Bind_BindsValid_1_AC fuel := by
 intro x1 o1 r hF0
 unfold m_slices_IndexFunc_Bind_BindsValid_1 at hF0
 refine AC_i [.t (.sc (.int .i64 r))] Tryz.func144 rfl Tryz.ntmps144 ?_
 intro C hC
 refine awp_seq (awp_region ?_)
 refine s_as ?_
 refine k_nil (k_seq (awp_seq (awp_seq (awp_region ?_))))
 refine s_mv ?_
 refine s_lenT yU23 ?_
 refine s_mv ?_
 refine k_nil (k_seq (awp_block ?_))
 refine awp_fr (β := Int) [4, 5, 8, 9, 10, 11, 12, 13, 14, 15, 16, 17, 18] [] [] (fun a => [(8, .t (.sc (.int .i64 a.2)))]) (fun a => []) (fun a => a.1 ≤ fuel ∧ m_slices_IndexFunc_Bind_BindsValid_1_l1 a.1 x1 o1 a.2 = some r ∧ 0 ≤ a.2) (fuel, 0) ⟨Nat.le_refl _, hF0, by simp⟩ ?_
 clear hF0
 rintro ⟨fu, g1⟩ ⟨hl2, hF1, hn_g1⟩
 dsimp only at hl2 hF1 hn_g1 ⊢
 obtain _ | fu := fu
 · rw [m_slices_IndexFunc_Bind_BindsValid_1_l1] at hF1; cases hF1
 rw [m_slices_IndexFunc_Bind_BindsValid_1_l1] at hF1
 refine awp_seq (awp_region ?_)
 refine s_lt ?_
 refine k_nil (k_seq (awp_seq ?_))
 refine w_cond hF1 ?_ ?_ <;> intro hc3 hF2
 refine awp_lenT 0 (fun hb4 => ?_)
 refine awp_skip (k_seq (awp_seq (awp_block (awp_seq (awp_region ?_)))))
 refine s_mv ?_
 refine s_as ?_
 refine k_nil (k_seq (awp_seq (awp_region ?_)))
 iterate 3 refine s_mv ?_
 obtain ⟨v5, hv5, hF3⟩ := bind_some' hF2
 refine s_ixT Bind.row hv5 (Bind.row_eq _) yE23 ?_
 refine s_ldN yA93 yS93 ?_
 obtain ⟨v6, hv6, hF4⟩ := bind_some' hF3
 refine s_call [(9000, 9000)] [] _ _ (m_impl_BindsValid_1_ok fu _ _ _ hv6) ?_
 refine k_nil (k_seq ?_)
 refine w_cond hF4 ?_ ?_ <;> intro hc7 hF5
 refine awp_seq (awp_region ?_)
 refine s_mv ?_
 refine s_as ?_
 refine k_nil (k_seq (awp_ret (k_blk_ret (k_seq_ret (k_rnd_ret2 (k_blk_ret (k_seq_ret (k_fin ?_))))))))
 cases hF5
 exact ends_a _ [] Tryz.results144
 refine awp_skip (k_blk (k_seq (awp_region ?_)))
 refine s_add (winc2 hc3 hb4 hn_g1) ?_
 refine s_mv ?_
 refine k_nil ?_
 exact s_rn (fu, (g1 + 1)) ⟨by first | omega | (dsimp only; omega), hF5, by first | omega | (dsimp only; omega)⟩
 refine awp_exit (k_seq_exit (k_rnd_exit2 (k_blk_exit (k_seq (awp_seq (awp_region ?_))))))
 refine s_as ?_
 refine k_nil (k_seq (awp_ret (k_fin ?_)))
 cases hF2
 exact ends_a _ [] Tryz.results144
def m_slices_ContainsFunc_Bind_BindsValid_1_AC (fuel : Nat) : Prop := ∀ (x1 : (List Bind)) (o1 : Bind) (r : Bool), m_slices_ContainsFunc_Bind_BindsValid_1 fuel x1 o1 = some r → AC Tryz.prog 75 [.t (.sl (x1.map Bind.row)), .fn 76 [.rf 9000 0]] (objs [(9000, .box [.t (.sc (.str o1.name)), .t (.sl (o1.scopes.map rI)), .t (.sc (.int .i64 o1.id))])]) (.t (.sc (.bool r))) (objs [(9000, .box [.t (.sc (.str o1.name)), .t (.sl (o1.scopes.map rI)), .t (.sc (.int .i64 o1.id))])])
theorem m_slices_ContainsFunc_Bind_BindsValid_1_ok (fuel : Nat) : m_slices_ContainsFunc_Bind_BindsValid_1_AC fuel := by
 intro x1 o1 r hF0
 unfold m_slices_ContainsFunc_Bind_BindsValid_1 at hF0
 refine AC_i [.t (.sc (.bool r))] Tryz.func75 rfl Tryz.ntmps75 ?_
 intro C hC
 refine awp_seq (awp_region ?_)
 refine s_as ?_
 refine k_nil (k_seq (awp_seq (awp_region ?_)))
 refine s_mv ?_
 refine s_mv ?_
 obtain ⟨v1, hv1, hF1⟩ := bind_some' hF0
 refine s_call [(9000, 9000)] [] _ _ (m_slices_IndexFunc_Bind_BindsValid_1_ok fuel _ _ _ hv1) ?_
 refine s_ge ?_
 refine s_as ?_
 refine k_nil (k_seq (awp_ret (k_fin ?_)))
 cases hF1
 exact ends_a _ [] Tryz.results75
def m_impl_BindsValid_AC (fuel : Nat) : Prop := ∀ (x1 : (List Bind)) (r : Bool), m_impl_BindsValid fuel x1 = some r → AC Tryz.prog 17 [.t (.sl (x1.map Bind.row))] noOb (.t (.sc (.bool r))) noOb
theorem m_impl_BindsValid_ok (fuel : Nat) : m_impl_BindsValid_AC fuel := by
 intro x1 r hF0
 unfold m_impl_BindsValid at hF0
 refine AC_i [.t (.sc (.bool r))] Tryz.func17 rfl Tryz.ntmps17 ?_
 intro C hC
 refine awp_seq (awp_region ?_)
 refine s_as ?_
 refine k_nil (k_seq (awp_seq (awp_seq (awp_region ?_))))
 refine s_mv ?_
 refine s_lenT yU23 ?_
 refine s_mv ?_
 refine k_nil (k_seq (awp_block ?_))
 refine awp_fr (β := Int) [2, 3, 4, 7, 8, 9, 10, 11, 12, 13, 14, 15, 16, 17, 18, 19, 20, 21, 22, 23, 24, 25, 26, 27, 28, 29, 30, 31, 32, 33] [] [4] (fun a => [(7, .t (.sc (.int .i64 a.2)))]) (fun a => []) (fun a => a.1 ≤ fuel ∧ m_impl_BindsValid_l1 a.1 x1 a.2 = some r ∧ 0 ≤ a.2) (fuel, 0) ⟨Nat.le_refl _, hF0, by simp⟩ ?_
 clear hF0
 rintro ⟨fu, g1⟩ ⟨hl2, hF1, hn_g1⟩
 dsimp only at hl2 hF1 hn_g1 ⊢
 obtain _ | fu := fu
 · rw [m_impl_BindsValid_l1] at hF1; cases hF1
 rw [m_impl_BindsValid_l1] at hF1
 refine awp_seq (awp_region ?_)
 refine s_lt ?_
 refine k_nil (k_seq (awp_seq ?_))
 refine w_cond hF1 ?_ ?_ <;> intro hc3 hF2
 refine awp_lenT 0 (fun hb4 => ?_)
 refine awp_skip (k_seq (awp_seq (awp_block (awp_seq (awp_region ?_)))))
 refine s_mv ?_
 obtain ⟨v5, hv5, hF3⟩ := bind_some' hF2
 refine s_ixT Bind.row hv5 (Bind.row_eq _) yE23 ?_
 refine s_ldN yA93 yS93 ?_
 refine s_alloc yZ93 ?_
 refine s_as ?_
 refine s_stW yS93 ?_
 refine k_nil (k_seq (awp_seq ?_))
 refine awp_jn (α := Nat × Bool) [12, 13, 14, 15, 16, 17, 18, 19, 20, 21, 22, 23, 24, 25, 26, 27] [] [] (fun a => [(27, .t (.sc (.bool a.2)))]) (fun a => []) (fun a => a.1 ≤ fu ∧ m_impl_BindsValid_j2 a.1 x1 g1 v5 a.2 = some r) ?_ ?_
 refine awp_region ?_
 refine s_fa yF93_0 ?_
 refine s_ld1 yA9 ?_
 obtain ⟨v6, hv6, hF4⟩ := bind_some' hF3
 refine s_pure [] (m_impl_NameValid_ok fu _ _ hv6) ?_
 refine s_not ?_
 refine s_mv ?_
 refine w_guard _ 16 hF4 ?_ ?_ <;> intro hc7 hF5
 iterate 4 refine r_no rfl ?_
 refine s_pkt ?_
 refine s_mv ?_
 iterate 4 refine r_no rfl ?_
 refine s_pkt ?_
 refine k_nil ?_
 exact s_jn (fu, true) ⟨by first | omega | (dsimp only; omega), hF5⟩
 refine s_fa yF93_1 ?_
 refine s_ld1 yA24 ?_
 obtain ⟨v8, hv8, hF6⟩ := bind_some' hF5
 refine s_pure [] (m_impl_scopesOk_ok fu _ _ hv8) ?_
 refine s_not ?_
 refine s_pkf ?_
 refine s_mv ?_
 refine w_guard _ 22 hF6 ?_ ?_ <;> intro hc9 hF7
 iterate 4 refine r_no rfl ?_
 refine s_pkt ?_
 refine k_nil ?_
 exact s_jn (fu, true) ⟨by first | omega | (dsimp only; omega), hF7⟩
 refine s_fa yF93_2 ?_
 refine s_ld1 yA3 ?_
 obtain ⟨v10, hv10, hF8⟩ := bind_some' hF7
 refine s_pure [] (m_impl_within_ok fu _ _ _ _ hv10) ?_
 refine s_not ?_
 refine s_pkf ?_
 refine k_nil ?_
 exact s_jn (fu, (!v10)) ⟨by first | omega | (dsimp only; omega), hF8⟩
 clear hF3
 rintro ⟨fu, g11⟩ ⟨hl12, hF4⟩
 dsimp only at hl12 hF4 ⊢
 obtain _ | fu := fu
 · rw [m_impl_BindsValid_j2] at hF4; cases hF4
 rw [m_impl_BindsValid_j2] at hF4
 refine w_cond hF4 ?_ ?_ <;> intro hc13 hF5
 refine awp_seq (awp_region ?_)
 refine s_as ?_
 refine k_nil (k_seq (awp_ret (k_seq_ret (k_blk_ret (k_seq_ret (k_rnd_ret2 (k_blk_ret (k_seq_ret (k_fin ?_)))))))))
 cases hF5
 exact ends_a [] [] Tryz.results17
 refine awp_skip (k_seq (awp_seq (awp_region ?_)))
 refine s_mv ?_
 refine s_mv ?_
 obtain ⟨v14, hv14, hF6⟩ := bind_some' hF5
 refine s_sl01 Bind.row (fun y => Bind.row_len y) hv14 yU23 yE23 ?_
 refine s_fn ?_
 obtain ⟨v15, hv15, hF7⟩ := bind_some' hF6
 refine s_call [(9000, 4)] [] _ _ (m_slices_ContainsFunc_Bind_BindsValid_1_ok fu _ _ _ hv15) ?_
 refine k_nil (k_seq ?_)
 refine w_cond hF7 ?_ ?_ <;> intro hc16 hF8
 refine awp_seq (awp_region ?_)
 refine s_as ?_
 refine k_nil (k_seq (awp_ret (k_blk_ret (k_seq_ret (k_rnd_ret2 (k_blk_ret (k_seq_ret (k_fin ?_))))))))
 cases hF8
 exact ends_a [] [] Tryz.results17
 refine awp_skip (k_blk (k_seq (awp_region ?_)))
 refine s_add (winc2 hc3 hb4 hn_g1) ?_
 refine s_mv ?_
 refine k_nil ?_
 exact s_rn (fu, (g1 + 1)) ⟨by first | omega | (dsimp only; omega), hF8, by first | omega | (dsimp only; omega)⟩
 refine awp_exit (k_seq_exit (k_rnd_exit2 (k_blk_exit (k_seq (awp_seq (awp_region ?_))))))
 refine s_mv ?_
 refine s_lenT yU23 ?_
 refine s_le ?_
 refine s_as ?_
 refine k_nil (k_seq (awp_ret (k_fin ?_)))
 cases hF2
 exact ends_a [] [] Tryz.results17
end Go.Abs
