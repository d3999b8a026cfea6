/- A part of the proof: what the functions that the law calls answer, as pure values. -/
import Derived.Test.YtgicgbokgmmgdaaGreatK09dd301dd350
import Derived.Test.YtgicgbokgmmgdaaGreatK60c1d2450215
import Derived.Test.YtgicgbokgmmgdaaGreatK7c7f7d4ae248
import Derived.Test.YtgicgbokgmmgdaaGreatKa3b513877290
import Derived.Test.YtgicgbokgmmgdaaGreatKbdf8494f7d88
import Derived.Test.YtgicgbokgmmgdaaGreatKcf6e923ba96b
import Derived.Test.YtgicgbokgmmgdaaGreatKe135ec417791
import Derived.Test.YtgicgbokgmmgdaaGreatKe81f2be66cad
import Derived.Test.YtgicgbokgmmgdaaGreatKfde8a17af971
set_option linter.unusedSimpArgs false
set_option linter.unusedVariables false
set_option maxRecDepth 100000
set_option maxHeartbeats 4000000
namespace Go.Abs
open Go.Proofs
def m_spec_TemplateValid_AC (fuel : Nat) : Prop := ∀ (x1 : Form) (x2 : (List Hit)) (r : Bool), m_spec_TemplateValid fuel x1 x2 = some r → AC Tryz.prog 13 [.ag [.t (.sc (.int .i64 x1.kind)), .t (.sc (.str x1.name)), .t (.sc (.int .i64 x1.n)), .t (.sl (x1.scopes.map rI)), .t (.sl (x1.kids.map Form.row))], .t (.sl (x2.map Hit.row))] noOb (.t (.sc (.bool r))) noOb
theorem m_spec_TemplateValid_ok (fuel : Nat) : m_spec_TemplateValid_AC fuel := by
 intro x1 x2 r hF0
 unfold m_spec_TemplateValid at hF0
 refine AC_i [.t (.sc (.bool r))] Tryz.func13 rfl Tryz.ntmps13 ?_
 intro C hC
 refine awp_seq (awp_region ?_)
 refine s_box ?_
 refine s_as ?_
 refine k_nil (k_seq (awp_seq (awp_region ?_)))
 refine s_ldW yA39 yS39 ?_
 obtain ⟨v1, hv1, hF1⟩ := bind_some' hF0
 refine s_pure [] (m_spec_FormValid_ok fuel _ _ hv1) ?_
 refine s_mv ?_
 refine w_guard _ 7 hF1 ?_ ?_ <;> intro hc2 hF2
 refine s_mv ?_
 obtain ⟨v3, hv3, hF3⟩ := bind_some' hF2
 refine s_pure [] (m_spec_HitsValid_ok fuel _ _ hv3) ?_
 refine s_pkt ?_
 refine s_mv ?_
 refine w_guard _ 11 hF3 ?_ ?_ <;> intro hc4 hF4
 refine s_ldW yA39 yS39 ?_
 refine s_mv ?_
 obtain ⟨v5, hv5, hF5⟩ := bind_some' hF4
 refine s_pure [] (m_spec_l5Is_ok fuel _ _ _ hv5) ?_
 refine s_pkt ?_
 refine s_as ?_
 refine k_nil (k_seq (awp_ret (k_fin ?_)))
 cases hF5
 exact ends_a [] [] Tryz.results13
 iterate 3 refine r_no rfl ?_
 refine s_pkf ?_
 refine s_as ?_
 refine k_nil (k_seq (awp_ret (k_fin ?_)))
 cases hF4
 exact ends_a [] [] Tryz.results13
 refine r_no rfl (r_no rfl ?_)
 refine s_pkf ?_
 refine s_mv ?_
 iterate 3 refine r_no rfl ?_
 refine s_pkf ?_
 refine s_as ?_
 refine k_nil (k_seq (awp_ret (k_fin ?_)))
 cases hF2
 exact ends_a [] [] Tryz.results13
def m_slices_Index_string_AC (fuel : Nat) : Prop := ∀ (x1 : (List ByteArray)) (x2 : ByteArray) (r : Int), m_slices_Index_string fuel x1 x2 = some r → AC Tryz.prog 110 [.t (.sl (x1.map rS)), .t (.sc (.str x2))] noOb (.t (.sc (.int .i64 r))) noOb
theorem m_slices_Index_string_ok (fuel : Nat) : m_slices_Index_string_AC fuel := by
 intro x1 x2 r hF0
 unfold m_slices_Index_string at hF0
 refine AC_i [.t (.sc (.int .i64 r))] Tryz.func110 rfl Tryz.ntmps110 ?_
 intro C hC
 refine awp_seq (awp_region ?_)
 refine s_as ?_
 refine k_nil (k_seq (awp_seq (awp_seq (awp_region ?_))))
 refine s_mv ?_
 refine s_lenT yU47 ?_
 refine s_mv ?_
 refine k_nil (k_seq (awp_block ?_))
 refine awp_fr (β := Int) [4, 5, 8, 9, 10, 11, 12, 13, 14, 15, 16, 17, 18] [] [] (fun a => [(8, .t (.sc (.int .i64 a.2)))]) (fun a => []) (fun a => a.1 ≤ fuel ∧ m_slices_Index_string_l1 a.1 x1 x2 a.2 = some r ∧ 0 ≤ a.2) (fuel, 0) ⟨Nat.le_refl _, hF0, by simp⟩ ?_
 clear hF0
 rintro ⟨fu, g1⟩ ⟨hl2, hF1, hn_g1⟩
 dsimp only at hl2 hF1 hn_g1 ⊢
 obtain _ | fu := fu
 · rw [m_slices_Index_string_l1] at hF1; cases hF1
 rw [m_slices_Index_string_l1] at hF1
 refine awp_seq (awp_region ?_)
 refine s_lt ?_
 refine k_nil (k_seq (awp_seq ?_))
 refine w_cond hF1 ?_ ?_ <;> intro hc3 hF2
 refine awp_lenT 0 (fun hb4 => ?_)
 refine awp_skip (k_seq (awp_seq (awp_block (awp_seq (awp_region ?_)))))
 refine s_mv ?_
 refine s_as ?_
 refine k_nil (k_seq (awp_seq (awp_region ?_)))
 iterate 3 refine s_mv ?_
 obtain ⟨v5, hv5, hF3⟩ := bind_some' hF2
 refine s_ixT rS hv5 rfl yE47 ?_
 refine s_ld1 yA9 ?_
 refine s_eqS ?_
 refine k_nil (k_seq ?_)
 refine w_cond hF3 ?_ ?_ <;> intro hc6 hF4
 refine awp_seq (awp_region ?_)
 refine s_mv ?_
 refine s_as ?_
 refine k_nil (k_seq (awp_ret (k_blk_ret (k_seq_ret (k_rnd_ret2 (k_blk_ret (k_seq_ret (k_fin ?_))))))))
 cases hF4
 exact ends_a [] [] Tryz.results110
 refine awp_skip (k_blk (k_seq (awp_region ?_)))
 refine s_add (winc2 hc3 hb4 hn_g1) ?_
 refine s_mv ?_
 refine k_nil ?_
 exact s_rn (fu, (g1 + 1)) ⟨by first | omega | (dsimp only; omega), hF4, by first | omega | (dsimp only; omega)⟩
 refine awp_exit (k_seq_exit (k_rnd_exit2 (k_blk_exit (k_seq (awp_seq (awp_region ?_))))))
 refine s_as ?_
 refine k_nil (k_seq (awp_ret (k_fin ?_)))
 cases hF2
 exact ends_a [] [] Tryz.results110
def m_slices_Contains_string_AC (fuel : Nat) : Prop := ∀ (x1 : (List ByteArray)) (x2 : ByteArray) (r : Bool), m_slices_Contains_string fuel x1 x2 = some r → AC Tryz.prog 51 [.t (.sl (x1.map rS)), .t (.sc (.str x2))] noOb (.t (.sc (.bool r))) noOb
theorem m_slices_Contains_string_ok (fuel : Nat) : m_slices_Contains_string_AC fuel := by
 intro x1 x2 r hF0
 unfold m_slices_Contains_string at hF0
 refine AC_i [.t (.sc (.bool r))] Tryz.func51 rfl Tryz.ntmps51 ?_
 intro C hC
 refine awp_seq (awp_region ?_)
 refine s_as ?_
 refine k_nil (k_seq (awp_seq (awp_region ?_)))
 refine s_mv ?_
 refine s_mv ?_
 obtain ⟨v1, hv1, hF1⟩ := bind_some' hF0
 refine s_pure [] (m_slices_Index_string_ok fuel _ _ _ hv1) ?_
 refine s_ge ?_
 refine s_as ?_
 refine k_nil (k_seq (awp_ret (k_fin ?_)))
 cases hF1
 exact ends_a [] [] Tryz.results51
def m_impl_NamesOf_1_AC (fuel : Nat) : Prop := ∀ (x1 : Form) (o1 : (List ByteArray)) (r : (List ByteArray)), m_impl_NamesOf_1 fuel x1 o1 = some r → AC Tryz.prog 50 [.ag [.t (.sc (.int .i64 x1.kind)), .t (.sc (.str x1.name)), .t (.sc (.int .i64 x1.n)), .t (.sl (x1.scopes.map rI)), .t (.sl (x1.kids.map Form.row))], .rf 9000 0] (objs [(9000, .box [.ar 9420]), (9420, .arr (o1.map rS) 9 false)]) (.tp []) (objs [(9000, .box [.ar 10420]), (9420, .dead), (10420, .arr (r.map rS) 9 false)])
theorem m_impl_NamesOf_1_ok (fuel : Nat) : m_impl_NamesOf_1_AC fuel := by
 intro x1 o1 r hF0
 unfold m_impl_NamesOf_1 at hF0
 refine AC_i [] Tryz.func50 rfl Tryz.ntmps50 ?_
 intro C hC
 refine awp_thw ?_
 refine awp_seq (awp_region ?_)
 refine s_box ?_
 refine k_nil (k_seq (awp_seq (awp_region ?_)))
 refine s_fa yF39_0 ?_
 refine s_ld1 yA3 ?_
 refine s_eq ?_
 refine s_mv ?_
 refine w_guard _ 6 hF0 ?_ ?_ <;> intro hc1 hF1
 refine s_ld1 yA47 ?_
 refine s_fa yF39_1 ?_
 refine s_ld1 yA9 ?_
 obtain ⟨v2, hv2, hF2⟩ := bind_some' hF1
 refine s_pure [9420] (m_slices_Contains_string_ok fuel _ _ _ hv2) ?_
 refine s_not ?_
 refine s_pkt ?_
 refine k_nil (k_seq ?_)
 refine w_cond hF2 ?_ ?_ <;> intro hc3 hF3
 refine awp_region ?_
 refine s_ld1 yA47 ?_
 refine s_fa yF39_1 ?_
 refine s_ld1 yA9 ?_
 refine s_bs rS [x1.name] yP47 yR9 ?_
 obtain ⟨hk4, hF4⟩ := chk_some hF3
 refine s_apF rS (fun _ => rfl) hk4 yP47 ?_
 refine s_stW yS47 ?_
 refine k_nil ?_
 refine thw_mvB 9000 17 10420 [.ar 10420] ?_
 refine thw_kill 9420 rfl ?_
 refine thw_id ?_
 refine k_fin_end ?_
 cases hF4
 exact ends_a _ [] Tryz.results50
 refine awp_mvB 9000 9420 10420 [.ar 10420] ?_
 refine awp_skip ?_
 refine thw_id ?_
 refine k_fin_end ?_
 cases hF3
 exact ends_a _ [] Tryz.results50
 iterate 5 refine r_no rfl ?_
 refine s_pkf ?_
 refine k_nil (k_seq (awp_false rfl ?_))
 refine awp_mvB 9000 9420 10420 [.ar 10420] ?_
 refine awp_skip ?_
 refine thw_id ?_
 refine k_fin_end ?_
 cases hF1
 exact ends_a _ [] Tryz.results50
def m_impl_eachForm_NamesOf_1_AC (fuel : Nat) : Prop := ∀ (x1 : Form) (o1 : (List ByteArray)) (r : (List ByteArray)), m_impl_eachForm_NamesOf_1 fuel x1 o1 = some r → AC Tryz.prog 49 [.ag [.t (.sc (.int .i64 x1.kind)), .t (.sc (.str x1.name)), .t (.sc (.int .i64 x1.n)), .t (.sl (x1.scopes.map rI)), .t (.sl (x1.kids.map Form.row))], .fn 50 [.rf 9000 0]] (objs [(9000, .box [.ar 9420]), (9420, .arr (o1.map rS) 9 false)]) (.tp []) (objs [(9000, .box [.ar 10420]), (9420, .dead), (10420, .arr (r.map rS) 9 false)])
theorem m_impl_eachForm_NamesOf_1_st (fu : Nat) (ih_m_impl_eachForm_NamesOf_1 : ∀ k, k ≤ fu → m_impl_eachForm_NamesOf_1_AC k) : m_impl_eachForm_NamesOf_1_AC (fu + 1) := by
 intro x1 o1 r hF0
 rw [m_impl_eachForm_NamesOf_1] at hF0
 refine AC_i [] Tryz.func49 rfl Tryz.ntmps49 ?_
 intro C hC
 refine awp_seq (awp_region ?_)
 refine s_box ?_
 refine k_nil (k_seq (awp_seq (awp_region ?_)))
 refine s_mv ?_
 refine s_ldW yA39 yS39 ?_
 obtain ⟨v1, hv1, hF1⟩ := bind_some' hF0
 refine s_call [(9000, 9000), (9420, 9420), (10420, 22008)] [] _ _ (m_impl_NamesOf_1_ok fu _ _ _ hv1) ?_
 refine k_nil (k_seq (awp_seq (awp_region ?_)))
 refine s_fa yF39_4 ?_
 refine s_ld1 yA37 ?_
 refine s_lenT yU37 ?_
 refine s_mv ?_
 refine k_nil (k_seq (awp_block ?_))
 refine awp_mvB 9000 22008 5020 [.ar 5020] ?_
 refine awp_frame2 [5, 12, 13, 14, 15, 16, 17, 18, 19] [5020, 9000] [5, 22018] [5020] (fun a : Nat × Int × (List ByteArray) => a.1) (fun a : Nat × Int × (List ByteArray) => [(12, .t (.sc (.int .i64 a.2.1)))]) (fun a : Nat × Int × (List ByteArray) => [(5020, .arr (a.2.2.map rS) 9 false), (9000, .box [.ar 5020])]) (fun a : Nat × Int × (List ByteArray) => a.1 ≤ fu ∧ m_impl_eachForm_NamesOf_1_l1 a.1 x1 a.2.1 a.2.2 = some r ∧ 0 ≤ a.2.1) (fu, 0, v1) ⟨Nat.le_refl _, hF1, by simp⟩ (by rfl) (by rfl) (fun _ => rfl) (hasF_cons (by conv => lhs; whnf) (by rfl) hasF_nil) (hasO_cons (by conv => lhs; whnf) (by rfl) (hasO_cons (by conv => lhs; whnf) (by rfl) hasO_nil)) (fresh_C hC rfl) (by repeat (first | exact freshS_args rfl | refine freshS_upd rfl ?_ | refine freshS_frame rfl ?_)) (by repeat (first | exact freshM_no | exact objs_fresh rfl | refine freshM_upd rfl ?_ | refine freshM_frame rfl ?_)) ?_
 clear hF1
 rintro ⟨fu, g2, g3⟩ ⟨hl4, hF2, hn_g2⟩
 dsimp only at hl4 hF2 hn_g2 ⊢
 obtain _ | fu := fu
 · rw [m_impl_eachForm_NamesOf_1_l1] at hF2; cases hF2
 rw [m_impl_eachForm_NamesOf_1_l1] at hF2
 refine awp_seq (awp_region ?_)
 refine s_lt ?_
 refine k_nil (k_seq (awp_seq ?_))
 refine w_cond hF2 ?_ ?_ <;> intro hc5 hF3
 refine awp_lenT 10 (fun hb6 => ?_)
 refine awp_skip (k_seq (awp_seq (awp_block (awp_seq (awp_region ?_)))))
 obtain ⟨v7, hv7, hF4⟩ := bind_some' hF3
 refine s_ixT Form.row hv7 (Form.row_eq _) yE37 ?_
 refine s_ldN yA39 yS39 ?_
 refine s_alloc yZ39 ?_
 refine s_stW yS39 ?_
 refine k_nil (k_seq (awp_region ?_))
 refine s_ldW yA39 yS39 ?_
 refine s_mv ?_
 obtain ⟨v8, hv8, hF5⟩ := bind_some' hF4
 refine s_call [(9000, 9000), (9420, 5020), (10420, 22018)] [] _ _ (ih_m_impl_eachForm_NamesOf_1 fu (by omega) _ _ _ hv8) ?_
 refine k_nil (k_blk (k_seq (awp_region ?_)))
 refine s_add (winc2 hc5 hb6 hn_g2) ?_
 refine s_mv ?_
 refine k_nil ?_
 exact s_rn (fu, (g2 + 1), v8) ⟨by first | omega | (dsimp only; omega), hF5, by first | omega | (dsimp only; omega)⟩ [(5020, 22018)]
 refine awp_mvB 9000 5020 10420 [.ar 10420] ?_
 refine awp_exit (k_seq_exit (k_rnd_exit2 (k_blk_exit (k_fin_end ?_))))
 cases hF3
 exact ends_a _ [] Tryz.results49
theorem m_impl_eachForm_NamesOf_1_all (fuel : Nat) : m_impl_eachForm_NamesOf_1_AC fuel := by
 induction fuel using Nat.strongRecOn with
 | _ N ih =>
   cases N with
   | zero => exact (by intro x1 o1 r h; rw [m_impl_eachForm_NamesOf_1] at h; cases h)
   | succ fu => exact m_impl_eachForm_NamesOf_1_st fu (fun k hk => (ih k (by omega)))
theorem m_impl_eachForm_NamesOf_1_ok (fuel : Nat) : m_impl_eachForm_NamesOf_1_AC fuel := (m_impl_eachForm_NamesOf_1_all fuel)
def m_impl_NamesOf_AC (fuel : Nat) : Prop := ∀ (x1 : Form) (r : (List ByteArray)), m_impl_NamesOf fuel x1 = some r → AC Tryz.prog 17 [.ag [.t (.sc (.int .i64 x1.kind)), .t (.sc (.str x1.name)), .t (.sc (.int .i64 x1.n)), .t (.sl (x1.scopes.map rI)), .t (.sl (x1.kids.map Form.row))]] noOb (.t (.sl (r.map rS))) noOb
theorem m_impl_NamesOf_ok (fuel : Nat) : m_impl_NamesOf_AC fuel := by
 intro x1 r hF0
 unfold m_impl_NamesOf at hF0
 refine AC_i [.t (.sl (r.map rS))] Tryz.func17 rfl Tryz.ntmps17 ?_
 intro C hC
 refine awp_seq (awp_region ?_)
 refine s_box ?_
 refine s_as ?_
 refine k_nil (k_seq (awp_seq (awp_region ?_)))
 refine s_bs rS ([] : List ByteArray) yP47 yR9 ?_
 refine s_alloc yZ47 ?_
 refine s_stW yS47 ?_
 refine k_nil (k_seq (awp_seq ?_))
 refine awp_frz 4 (by conv => lhs; whnf) ?_
 refine awp_region ?_
 refine s_ldW yA39 yS39 ?_
 refine s_fn ?_
 obtain ⟨v1, hv1, hF1⟩ := bind_some' hF0
 refine s_call [(9000, 3), (9420, 4), (10420, 22007)] [] _ _ (m_impl_eachForm_NamesOf_1_ok fuel _ _ _ hv1) ?_
 refine k_nil (k_seq (awp_seq (awp_region ?_)))
 refine s_ld1 yA47 ?_
 refine s_as ?_
 refine k_nil (k_seq (awp_ret (k_fin ?_)))
 cases hF1
 exact ends_a [] [22007] Tryz.results17
def m_laws_mxHasText_AC (fuel : Nat) : Prop := ∀ (x1 : (List ByteArray)) (x2 : ByteArray) (r : Bool), m_laws_mxHasText fuel x1 x2 = some r → AC Tryz.prog 16 [.t (.sl (x1.map rS)), .t (.sc (.str x2))] noOb (.t (.sc (.bool r))) noOb
theorem m_laws_mxHasText_ok (fuel : Nat) : m_laws_mxHasText_AC fuel := by
 intro x1 x2 r hF0
 unfold m_laws_mxHasText at hF0
 refine AC_i [.t (.sc (.bool r))] Tryz.func16 rfl Tryz.ntmps16 ?_
 intro C hC
 refine awp_seq (awp_region ?_)
 refine s_as ?_
 refine k_nil (k_seq (awp_seq (awp_seq (awp_region ?_))))
 refine s_as ?_
 refine k_nil (k_seq (awp_block ?_))
 refine awp_fr (β := Int) [4, 5, 6, 7, 8, 9, 10, 11, 12, 13, 14, 15, 16, 17] [] [] (fun a => [(5, .t (.sc (.int .i64 a.2)))]) (fun a => []) (fun a => a.1 ≤ fuel ∧ m_laws_mxHasText_l1 a.1 x1 x2 a.2 = some r ∧ 0 ≤ a.2) (fuel, 0) ⟨Nat.le_refl _, hF0, by simp⟩ ?_
 clear hF0
 rintro ⟨fu, g1⟩ ⟨hl2, hF1, hn_g1⟩
 dsimp only at hl2 hF1 hn_g1 ⊢
 obtain _ | fu := fu
 · rw [m_laws_mxHasText_l1] at hF1; cases hF1
 rw [m_laws_mxHasText_l1] at hF1
 refine awp_seq (awp_seq (awp_region ?_))
 refine s_mv ?_
 refine s_mv ?_
 refine s_lenT yU47 ?_
 refine s_lt ?_
 refine k_nil (k_seq ?_)
 refine w_cond hF1 ?_ ?_ <;> intro hc3 hF2
 refine awp_lenT 0 (fun hb4 => ?_)
 refine awp_skip (k_seq (awp_seq (awp_block (awp_seq (awp_region ?_)))))
 refine s_mv ?_
 refine s_mv ?_
 obtain ⟨v5, hv5, hF3⟩ := bind_some' hF2
 refine s_ixT rS hv5 rfl yE47 ?_
 refine s_ld1 yA9 ?_
 refine s_mv ?_
 refine s_eqS ?_
 refine k_nil (k_seq ?_)
 refine w_cond hF3 ?_ ?_ <;> intro hc6 hF4
 refine awp_seq (awp_region ?_)
 refine s_as ?_
 refine k_nil (k_seq (awp_ret (k_blk_ret (k_seq_ret (k_rnd_ret2 (k_blk_ret (k_seq_ret (k_fin ?_))))))))
 cases hF4
 exact ends_a [] [] Tryz.results16
 refine awp_skip (k_blk (k_seq (awp_region ?_)))
 refine s_mv ?_
 refine s_add (winc2 hc3 hb4 hn_g1) ?_
 refine s_as ?_
 refine k_nil ?_
 exact s_rn (fu, (g1 + 1)) ⟨by first | omega | (dsimp only; omega), hF4, by first | omega | (dsimp only; omega)⟩
 refine awp_exit (k_seq_exit (k_rnd_exit2 (k_blk_exit (k_seq (awp_seq (awp_region ?_))))))
 refine s_as ?_
 refine k_nil (k_seq (awp_ret (k_fin ?_)))
 cases hF2
 exact ends_a [] [] Tryz.results16
def m_laws_mxPart_AC (fuel : Nat) : Prop := ∀ (x1 : Form) (x2 : Form) (r : Bool), m_laws_mxPart fuel x1 x2 = some r → AC Tryz.prog 18 [.ag [.t (.sc (.int .i64 x1.kind)), .t (.sc (.str x1.name)), .t (.sc (.int .i64 x1.n)), .t (.sl (x1.scopes.map rI)), .t (.sl (x1.kids.map Form.row))], .ag [.t (.sc (.int .i64 x2.kind)), .t (.sc (.str x2.name)), .t (.sc (.int .i64 x2.n)), .t (.sl (x2.scopes.map rI)), .t (.sl (x2.kids.map Form.row))]] noOb (.t (.sc (.bool r))) noOb
theorem m_laws_mxPart_st (fu : Nat) (ih_m_laws_mxPart : ∀ k, k ≤ fu → m_laws_mxPart_AC k) : m_laws_mxPart_AC (fu + 1) := by
 intro x1 x2 r hF0
 rw [m_laws_mxPart] at hF0
 refine AC_i [.t (.sc (.bool r))] Tryz.func18 rfl Tryz.ntmps18 ?_
 intro C hC
 refine awp_seq (awp_region ?_)
 refine s_box ?_
 refine s_box ?_
 refine s_as ?_
 refine k_nil (k_seq (awp_seq (awp_seq (awp_region ?_))))
 refine s_ldW yA39 yS39 ?_
 refine s_ldW yA39 yS39 ?_
 obtain ⟨v1, hv1, hF1⟩ := bind_some' hF0
 refine s_pure [] (m_impl_FormSame_ok fu _ _ _ hv1) ?_
 refine k_nil (k_seq ?_)
 refine w_cond hF1 ?_ ?_ <;> intro hc2 hF2
 refine awp_seq (awp_region ?_)
 refine s_as ?_
 refine k_nil (k_seq (awp_ret (k_seq_ret (k_fin ?_))))
 cases hF2
 exact ends_a [] [] Tryz.results18
 refine awp_skip (k_seq (awp_seq (awp_seq (awp_region ?_))))
 refine s_as ?_
 refine k_nil (k_seq (awp_block ?_))
 refine awp_fr (β := Int) [4, 5, 9, 10, 11, 12, 13, 14, 15, 16, 17, 18, 19, 20, 21, 22] [] [] (fun a => [(5, .t (.sc (.int .i64 a.2)))]) (fun a => []) (fun a => a.1 ≤ fu ∧ m_laws_mxPart_l1 a.1 x1 x2 a.2 = some r ∧ 0 ≤ a.2) (fu, 0) ⟨Nat.le_refl _, hF2, by simp⟩ ?_
 clear hF2
 rintro ⟨fu, g3⟩ ⟨hl4, hF3, hn_g3⟩
 dsimp only at hl4 hF3 hn_g3 ⊢
 obtain _ | fu := fu
 · rw [m_laws_mxPart_l1] at hF3; cases hF3
 rw [m_laws_mxPart_l1] at hF3
 refine awp_seq (awp_seq (awp_region ?_))
 refine s_mv ?_
 refine s_fa yF39_4 ?_
 refine s_ld1 yA37 ?_
 refine s_lenT yU37 ?_
 refine s_lt ?_
 refine k_nil (k_seq ?_)
 refine w_cond hF3 ?_ ?_ <;> intro hc5 hF4
 refine awp_lenT 11 (fun hb6 => ?_)
 refine awp_skip (k_seq (awp_seq (awp_block (awp_seq ?_))))
 refine awp_draw yMix (by kernel_rfl) ?_
 refine s_fa yF39_4 ?_
 refine s_ld1 yA37 ?_
 refine s_mv ?_
 obtain ⟨v7, hv7, hF5⟩ := bind_some' hF4
 refine s_ixT Form.row hv7 (Form.row_eq _) yE37 ?_
 refine s_ldN yA39 yS39 ?_
 refine s_ldW yA39 yS39 ?_
 obtain ⟨v8, hv8, hF6⟩ := bind_some' hF5
 refine s_pure [] (ih_m_laws_mxPart fu (by omega) _ _ _ hv8) ?_
 refine k_nilD (by kernel_rfl) ?_
 refine k_seq ?_
 refine w_cond hF6 ?_ ?_ <;> intro hc9 hF7
 refine awp_seq (awp_region ?_)
 refine s_as ?_
 refine k_nil (k_seq (awp_ret (k_blk_ret (k_seq_ret (k_rnd_ret2 (k_blk_ret (k_seq_ret (k_fin ?_))))))))
 cases hF7
 exact ends_a [] [] Tryz.results18
 refine awp_skip (k_blk (k_seq (awp_region ?_)))
 refine s_mv ?_
 refine s_add (winc2 hc5 hb6 hn_g3) ?_
 refine s_as ?_
 refine k_nil ?_
 exact s_rn (fu, (g3 + 1)) ⟨by first | omega | (dsimp only; omega), hF7, by first | omega | (dsimp only; omega)⟩
 refine awp_exit (k_seq_exit (k_rnd_exit2 (k_blk_exit (k_seq (awp_seq (awp_region ?_))))))
 refine s_as ?_
 refine k_nil (k_seq (awp_ret (k_fin ?_)))
 cases hF4
 exact ends_a [] [] Tryz.results18
theorem m_laws_mxPart_all (fuel : Nat) : m_laws_mxPart_AC fuel := by
 induction fuel using Nat.strongRecOn with
 | _ N ih =>
   cases N with
   | zero => exact (by intro x1 x2 r h; rw [m_laws_mxPart] at h; cases h)
   | succ fu => exact m_laws_mxPart_st fu (fun k hk => (ih k (by omega)))
theorem m_laws_mxPart_ok (fuel : Nat) : m_laws_mxPart_AC fuel := (m_laws_mxPart_all fuel)
def m_laws_FnTemplateValid_AC (fuel : Nat) : Prop := ∀ (x1 : (List Int)) (r : Bool), m_laws_FnTemplateValid fuel x1 = some r → AC Tryz.prog 4 [.t (.sl (x1.map rB))] noOb (.t (.sc (.bool r))) noOb
theorem m_laws_FnTemplateValid_ok (fuel : Nat) : m_laws_FnTemplateValid_AC fuel := by
 intro x1 r hF0
 unfold m_laws_FnTemplateValid at hF0
 refine AC_i [.t (.sc (.bool r))] Tryz.func4 rfl Tryz.ntmps4 ?_
 intro C hC
 refine awp_seq (awp_region ?_)
 refine s_as ?_
 refine k_nil (k_seq (awp_seq (awp_seq (awp_region ?_))))
 refine s_mv ?_
 refine s_lenT yU35 ?_
 refine s_gt ?_
 refine k_nil (k_seq ?_)
 refine w_cond hF0 ?_ ?_ <;> intro hc1 hF1
 refine awp_lenT 0 (fun hb2 => ?_)
 refine awp_seq (awp_region ?_)
 refine s_as ?_
 refine k_nil (k_seq (awp_ret (k_seq_ret (k_fin ?_))))
 cases hF1
 exact ends_a [] [] Tryz.results4
 refine awp_skip (k_seq (awp_seq (awp_region ?_)))
 refine s_mv ?_
 obtain ⟨v3, hv3, hF2⟩ := bind_some' hF1
 refine s_pure [] (m_spec_DrawTemplateValid_ok fuel _ _ hv3) ?_
 refine s_mv ?_
 refine s_ext ?_
 refine s_ext ?_
 refine s_alloc yZ39 ?_
 refine s_stW yS39 ?_
 refine s_as ?_
 refine k_nil (k_seq (awp_seq (awp_region ?_)))
 refine s_ldW yA39 yS39 ?_
 refine s_mv ?_
 obtain ⟨v4, hv4, hF3⟩ := bind_some' hF2
 refine s_pure [] (m_impl_TemplateValid_ok fuel _ _ _ hv4) ?_
 refine s_as ?_
 refine k_nil (k_seq (awp_seq ?_))
 refine awp_jn (α := Nat × Bool) [19, 20, 21, 22, 23, 24, 25, 26, 27, 28, 29, 30, 31, 32, 33] [] [] (fun a => [(33, .t (.sc (.bool a.2)))]) (fun a => []) (fun a => a.1 ≤ fuel ∧ m_laws_FnTemplateValid_j1 a.1 v3 v4 a.2 = some r) ?_ ?_
 refine awp_region ?_
 refine s_mv ?_
 refine s_ldW yA39 yS39 ?_
 refine s_mv ?_
 obtain ⟨v5, hv5, hF4⟩ := bind_some' hF3
 refine s_pure [] (m_spec_TemplateValid_ok fuel _ _ _ hv5) ?_
 refine s_neB yU4 ?_
 refine s_mv ?_
 refine w_guard _ 24 hF4 ?_ ?_ <;> intro hc6 hF5
 iterate 3 refine r_no rfl ?_
 refine s_pkt ?_
 refine s_mv ?_
 iterate 3 refine r_no rfl ?_
 refine s_pkt ?_
 refine k_nil ?_
 exact s_jn (fuel, true) ⟨by first | omega | (dsimp only; omega), hF5⟩
 refine s_ldW yA39 yS39 ?_
 obtain ⟨v7, hv7, hF6⟩ := bind_some' hF5
 refine s_pure [] (m_impl_FormValid_ok fuel _ _ hv7) ?_
 refine s_not ?_
 refine s_pkf ?_
 refine s_mv ?_
 refine w_guard _ 29 hF6 ?_ ?_ <;> intro hc8 hF7
 iterate 3 refine r_no rfl ?_
 refine s_pkt ?_
 refine k_nil ?_
 exact s_jn (fuel, true) ⟨by first | omega | (dsimp only; omega), hF7⟩
 refine s_mv ?_
 obtain ⟨v9, hv9, hF8⟩ := bind_some' hF7
 refine s_pure [] (m_impl_HitsValid_ok fuel _ _ hv9) ?_
 refine s_not ?_
 refine s_pkf ?_
 refine k_nil ?_
 exact s_jn (fuel, (!v9)) ⟨by first | omega | (dsimp only; omega), hF8⟩
 clear hF3
 rintro ⟨fu, g10⟩ ⟨hl11, hF4⟩
 dsimp only at hl11 hF4 ⊢
 obtain _ | fu := fu
 · rw [m_laws_FnTemplateValid_j1] at hF4; cases hF4
 rw [m_laws_FnTemplateValid_j1] at hF4
 refine w_cond hF4 ?_ ?_ <;> intro hc12 hF5
 refine awp_jn (α := Nat × Bool) [2, 34, 35, 36, 37, 38, 39, 40, 41, 42] [] [] (fun a => [(2, .t (.sc (.bool a.2)))]) (fun a => []) (fun a => a.1 ≤ fu ∧ m_laws_FnTemplateValid_j2 a.1  a.2 = some r) ?_ ?_
 refine awp_region ?_
 refine s_mv ?_
 refine s_ldW yA39 yS39 ?_
 refine s_mv ?_
 obtain ⟨v13, hv13, hF6⟩ := bind_some' hF5
 refine s_pure [] (m_spec_TemplateValid_ok fu _ _ _ hv13) ?_
 refine s_eqB yU4 ?_
 refine s_mv ?_
 refine w_guard _ 39 hF6 ?_ ?_ <;> intro hc14 hF7
 refine s_mv ?_
 refine s_not ?_
 refine s_pkt ?_
 refine s_as ?_
 refine k_nil ?_
 exact s_jn (fu, (!v4)) ⟨by first | omega | (dsimp only; omega), hF7⟩
 refine r_no rfl (r_no rfl ?_)
 refine s_pkf ?_
 refine s_as ?_
 refine k_nil ?_
 exact s_jn (fu, false) ⟨by first | omega | (dsimp only; omega), hF7⟩
 clear hF5
 rintro ⟨fu, g15⟩ ⟨hl16, hF6⟩
 dsimp only at hl16 hF6 ⊢
 obtain _ | fu := fu
 · rw [m_laws_FnTemplateValid_j2] at hF6; cases hF6
 rw [m_laws_FnTemplateValid_j2] at hF6
 refine awp_ret (k_seq_ret (k_fin ?_))
 cases hF6
 exact ends_a [] [] Tryz.results4
 refine awp_skip (k_seq (awp_seq (awp_seq (awp_region ?_))))
 refine s_ldW yA39 yS39 ?_
 obtain ⟨v17, hv17, hF6⟩ := bind_some' hF5
 refine s_pure [] (m_impl_NamesOf_ok fu _ _ hv17) ?_
 obtain ⟨v18, hv18, hF7⟩ := bind_some' hF6
 refine s_pure [] (m_laws_mxHasText_ok fu _ _ _ hv18) ?_
 refine k_nil (k_seq ?_)
 refine w_cond hF7 ?_ ?_ <;> intro hc19 hF8
 refine awp_seq (awp_region ?_)
 refine s_as ?_
 refine k_nil (k_seq (awp_ret (k_seq_ret (k_fin ?_))))
 cases hF8
 exact ends_a [] [] Tryz.results4
 refine awp_skip (k_seq (awp_seq (awp_region ?_)))
 refine s_as ?_
 refine k_nil (k_seq (awp_seq (awp_seq (awp_region ?_))))
 refine s_as ?_
 refine k_nil (k_seq (awp_block ?_))
 refine awp_fr (β := Bool × Int) [6, 7, 46, 47, 48, 49, 50, 51, 52, 53, 54, 55, 56, 57, 58, 59, 60, 61, 62, 63, 64, 65, 66, 67, 68, 69] [] [] (fun a => [(6, .t (.sc (.bool a.2.1))), (7, .t (.sc (.int .i64 a.2.2)))]) (fun a => []) (fun a => a.1 ≤ fu ∧ m_laws_FnTemplateValid_l3 a.1 v3 v4 a.2.1 a.2.2 = some r ∧ 0 ≤ a.2.2) (fu, false, 0) ⟨Nat.le_refl _, hF8, by simp⟩ ?_
 clear hF8
 rintro ⟨fu, g20, g21⟩ ⟨hl22, hF9, hn_g21⟩
 dsimp only at hl22 hF9 hn_g21 ⊢
 obtain _ | fu := fu
 · rw [m_laws_FnTemplateValid_l3] at hF9; cases hF9
 rw [m_laws_FnTemplateValid_l3] at hF9
 refine awp_seq (awp_seq (awp_region ?_))
 refine s_mv ?_
 refine s_mv ?_
 refine s_lenT yU40 ?_
 refine s_lt ?_
 refine k_nil (k_seq ?_)
 refine w_cond hF9 ?_ ?_ <;> intro hc23 hF10
 refine awp_lenT 4 (fun hb24 => ?_)
 refine awp_skip (k_seq (awp_seq (awp_block ?_)))
 refine awp_draw yMix (by kernel_rfl) ?_
 refine s_mv ?_
 refine s_mv ?_
 refine w_guard _ 53 hF10 ?_ ?_ <;> intro hc25 hF11
 iterate 15 refine r_no rfl ?_
 refine s_pkt ?_
 refine s_as ?_
 refine k_nilD (by kernel_rfl) ?_
 refine k_blk (k_seq (awp_region ?_))
 refine s_mv ?_
 refine s_add (winc2 hc23 hb24 hn_g21) ?_
 refine s_as ?_
 refine k_nil ?_
 exact s_rn (fu, true, (g21 + 1)) ⟨by first | omega | (dsimp only; omega), hF11, by first | omega | (dsimp only; omega)⟩
 refine s_mv ?_
 refine s_mv ?_
 obtain ⟨v26, hv26, hF12⟩ := bind_some' hF11
 refine s_ixT Hit.row hv26 (Hit.row_eq _) yE40 ?_
 refine s_fa yF50_1 ?_
 refine s_ld1 yA3 ?_
 refine s_gt ?_
 refine s_mv ?_
 refine w_guard _ 60 hF12 ?_ ?_ <;> intro hc27 hF13
 refine s_ldW yA39 yS39 ?_
 refine s_mv ?_
 refine s_mv ?_
 obtain ⟨v28, hv28, hF14⟩ := bind_some' hF13
 refine s_ixT Hit.row hv28 (Hit.row_eq _) yE40 ?_
 refine s_fa yF50_0 ?_
 refine s_ldN yA39 yS39 ?_
 obtain ⟨v29, hv29, hF15⟩ := bind_some' hF14
 refine s_pure [] (m_laws_mxPart_ok fu _ _ _ hv29) ?_
 refine s_pkt ?_
 refine s_pkf ?_
 refine s_as ?_
 refine k_nilD (by kernel_rfl) ?_
 refine k_blk (k_seq (awp_region ?_))
 refine s_mv ?_
 refine s_add (winc2 hc23 hb24 hn_g21) ?_
 refine s_as ?_
 refine k_nil ?_
 exact s_rn (fu, v29, (g21 + 1)) ⟨by first | omega | (dsimp only; omega), hF15, by first | omega | (dsimp only; omega)⟩
 iterate 7 refine r_no rfl ?_
 refine s_pkf ?_
 refine s_pkf ?_
 refine s_as ?_
 refine k_nilD (by kernel_rfl) ?_
 refine k_blk (k_seq (awp_region ?_))
 refine s_mv ?_
 refine s_add (winc2 hc23 hb24 hn_g21) ?_
 refine s_as ?_
 refine k_nil ?_
 exact s_rn (fu, false, (g21 + 1)) ⟨by first | omega | (dsimp only; omega), hF13, by first | omega | (dsimp only; omega)⟩
 refine awp_exit (k_seq_exit (k_rnd_exit2 (k_blk_exit (k_seq (awp_seq (awp_region ?_))))))
 refine s_mv ?_
 refine s_mv ?_
 refine s_not ?_
 refine s_eqB yU4 ?_
 refine s_as ?_
 refine k_nil (k_seq (awp_ret (k_fin ?_)))
 cases hF10
 exact ends_a [] [] Tryz.results4
end Go.Abs
