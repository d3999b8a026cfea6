/- A part of the proof: what the functions that the law calls answer, as pure values. -/
import Derived.Test.YtbkdbbfgdjcfgaaK6b7fadcb8d20
import Derived.Test.YtbkdbbfgdjcfgaaK70dadfb6b6c5
import Derived.Test.YtbkdbbfgdjcfgaaK77b7fab21485
import Derived.Test.YtbkdbbfgdjcfgaaKb700d2eed81f
set_option linter.unusedSimpArgs false
set_option linter.unusedVariables false
set_option maxRecDepth 100000
set_option maxHeartbeats 4000000
namespace Go.Abs
open Go.Proofs
theorem m_laws_markCoreS_D_all (fuel : Nat) : m_laws_markCoreS_D_AC fuel := by
 induction fuel using Nat.strongRecOn with
 | _ N ih =>
   cases N with
   | zero => exact (by intro x1 x2 r h; rw [m_laws_markCoreS] at h; cases h)
   | succ fu => exact m_laws_markCoreS_D_st fu (fun k hk => (ih k (by omega)))
theorem m_laws_markCoreS_D_ok (fuel : Nat) : m_laws_markCoreS_D_AC fuel := (m_laws_markCoreS_D_all fuel)
def m_laws_markCore_D_AC (fuel : Nat) : Prop := ∀ (x1 : Core) (x2 : Int) (r : (Int × (List Int) × (List Int) × (List Form) × (List Core))), m_laws_markCore fuel x1 x2 = some r → AC Try.prog 17 [.ag [.t (.sc (.int .i64 x1.kind)), .t (.sc (.int .i64 x1.id)), .t (.sc (.str x1.name)), .t (.sc (.int .i64 x1.n)), .ar 9304, .t (.sc (.int .i64 x1.data.kind)), .t (.sc (.str x1.data.name)), .t (.sc (.int .i64 x1.data.n)), .ar 9308, .ar 9309, .ar 9310], .t (.sc (.int .i64 x2))] (objs [(9304, .arr (x1.ids.map rI) 3 true), (9308, .arr (x1.data.scopes.map rI) 3 true), (9309, .dar (x1.data.kids.map (Form.rowD 3 34)) 34), (9310, .dar (x1.kids.map (Core.rowD 3 34 37)) 37)]) (.t (.sc (.int .i64 r.1))) (objs [(9304, .arr (r.2.1.map rI) 3 true), (9308, .arr (r.2.2.1.map rI) 3 true), (9309, .dar (r.2.2.2.1.map (Form.rowD 3 34)) 34), (9310, .dar (r.2.2.2.2.map (Core.rowD 3 34 37)) 37)])
theorem m_laws_markCore_D_ok (fuel : Nat) : m_laws_markCore_D_AC fuel := by
 intro x1 x2 r hF0
 unfold m_laws_markCore at hF0
 refine AC_i [.t (.sc (.int .i64 r.1))] Try.func17 rfl Try.ntmps17 ?_
 intro C hC
 refine awp_seq (awp_region ?_)
 refine s_box ?_
 refine s_as ?_
 refine k_nil (k_seq (awp_seq (awp_region ?_)))
 refine s_fa yF37_4 ?_
 refine s_ld1 yA22 ?_
 refine s_mv ?_
 obtain ⟨v1, hv1, hF1⟩ := bind_some' hF0
 refine s_call [(9300, 9304)] [] _ _ (m_laws_markIntS_D_ok fuel _ _ _ hv1) ?_
 refine s_as ?_
 refine k_nil (k_seq (awp_seq (awp_region ?_)))
 refine s_fa yF37_5 ?_
 refine s_ldN yA34 yS34 ?_
 refine s_mv ?_
 obtain ⟨v2, hv2, hF2⟩ := bind_some' hF1
 refine s_call [(9303, 9308), (9304, 9309)] [] _ _ (m_laws_markForm_D_ok fuel _ _ _ hv2) ?_
 refine s_as ?_
 refine k_nil (k_seq (awp_seq (awp_region ?_)))
 refine s_fa yF37_6 ?_
 refine s_ld1 yA35 ?_
 refine s_mv ?_
 obtain ⟨v3, hv3, hF3⟩ := bind_some' hF2
 refine s_call [(9300, 9310)] [] _ _ (m_laws_markCoreS_D_ok fuel _ _ _ hv3) ?_
 refine s_as ?_
 refine k_nil (k_seq (awp_seq (awp_region ?_)))
 refine s_mv ?_
 refine s_as ?_
 refine k_nil (k_seq (awp_ret (k_fin ?_)))
 cases hF3
 exact ends_a _ [] Try.results17
def m_spec_l1In_AC (fuel : Nat) : Prop := ∀ (x1 : (List ByteArray)) (x2 : ByteArray) (r : Bool), m_spec_l1In fuel x1 x2 = some r → AC Try.prog 111 [.t (.sl (x1.map rS)), .t (.sc (.str x2))] noOb (.t (.sc (.bool r))) noOb
theorem m_spec_l1In_ok (fuel : Nat) : m_spec_l1In_AC fuel := by
 intro x1 x2 r hF0
 unfold m_spec_l1In at hF0
 refine AC_i [.t (.sc (.bool r))] Try.func111 rfl Try.ntmps111 ?_
 intro C hC
 refine awp_seq (awp_region ?_)
 refine s_as ?_
 refine k_nil (k_seq (awp_seq (awp_seq (awp_region ?_))))
 refine s_as ?_
 refine k_nil (k_seq (awp_block ?_))
 refine awp_fr (β := Int) [4, 5, 6, 7, 8, 9, 10, 11, 12, 13, 14, 15, 16, 17] [] [] (fun a => [(5, .t (.sc (.int .i64 a.2)))]) (fun a => []) (fun a => a.1 ≤ fuel ∧ m_spec_l1In_l1 a.1 x1 x2 a.2 = some r ∧ 0 ≤ a.2) (fuel, 0) ⟨Nat.le_refl _, hF0, by simp⟩ ?_
 clear hF0
 rintro ⟨fu, g1⟩ ⟨hl2, hF1, hn_g1⟩
 dsimp only at hl2 hF1 hn_g1 ⊢
 obtain _ | fu := fu
 · rw [m_spec_l1In_l1] at hF1; cases hF1
 rw [m_spec_l1In_l1] at hF1
 refine awp_seq (awp_seq (awp_region ?_))
 refine s_mv ?_
 refine s_mv ?_
 refine s_lenT yU30 ?_
 refine s_lt ?_
 refine k_nil (k_seq ?_)
 refine w_cond hF1 ?_ ?_ <;> intro hc3 hF2
 refine awp_lenT 0 (fun hb4 => ?_)
 refine awp_skip (k_seq (awp_seq (awp_block (awp_seq (awp_region ?_)))))
 refine s_mv ?_
 refine s_mv ?_
 obtain ⟨v5, hv5, hF3⟩ := bind_some' hF2
 refine s_ixT rS hv5 rfl yE30 ?_
 refine s_ld1 yA9 ?_
 refine s_mv ?_
 refine s_eqS ?_
 refine k_nil (k_seq ?_)
 refine w_cond hF3 ?_ ?_ <;> intro hc6 hF4
 refine awp_seq (awp_region ?_)
 refine s_as ?_
 refine k_nil (k_seq (awp_ret (k_blk_ret (k_seq_ret (k_rnd_ret2 (k_blk_ret (k_seq_ret (k_fin ?_))))))))
 cases hF4
 exact ends_a [] [] Try.results111
 refine awp_skip (k_blk (k_seq (awp_region ?_)))
 refine s_mv ?_
 refine s_add (winc2 hc3 hb4 hn_g1) ?_
 refine s_as ?_
 refine k_nil ?_
 exact s_rn (fu, (g1 + 1)) ⟨by first | omega | (dsimp only; omega), hF4, by first | omega | (dsimp only; omega)⟩
 refine awp_exit (k_seq_exit (k_rnd_exit2 (k_blk_exit (k_seq (awp_seq (awp_region ?_))))))
 refine s_as ?_
 refine k_nil (k_seq (awp_ret (k_fin ?_)))
 cases hF2
 exact ends_a [] [] Try.results111
def m_spec_l6Free_f_AC (fuel : Nat) : Prop := ∀ (x1 : (List ByteArray)) (x2 : Core) (r : (List ByteArray)), m_spec_l6Free_f fuel x1 x2 = some r → AC Try.prog 64 [.ar 9300, .ag [.t (.sc (.int .i64 x2.kind)), .t (.sc (.int .i64 x2.id)), .t (.sc (.str x2.name)), .t (.sc (.int .i64 x2.n)), .t (.sl (x2.ids.map rI)), .t (.sc (.int .i64 x2.data.kind)), .t (.sc (.str x2.data.name)), .t (.sc (.int .i64 x2.data.n)), .t (.sl (x2.data.scopes.map rI)), .t (.sl (x2.data.kids.map Form.row)), .t (.sl (x2.kids.map Core.row))]] (objs [(9300, .arr (x1.map rS) 9 false)]) (.ar 9200) (objs [(9300, .dead), (9200, .arr (r.map rS) 9 false)])
theorem m_spec_l6Free_f_st (fu : Nat) (ih_m_spec_l6Free_f : ∀ k, k ≤ fu → m_spec_l6Free_f_AC k) : m_spec_l6Free_f_AC (fu + 1) := by
 intro x1 x2 r hF0
 rw [m_spec_l6Free_f] at hF0
 refine AC_i [.ar 9200] Try.func64 rfl Try.ntmps64 ?_
 intro C hC
 refine awp_seq (awp_region ?_)
 refine s_box ?_
 refine s_as ?_
 refine k_nil (k_seq (awp_seq (awp_seq (awp_region ?_))))
 refine s_fa yF37_0 ?_
 refine s_ld1 yA3 ?_
 refine s_eq ?_
 refine s_mv ?_
 refine w_guard _ 9 hF0 ?_ ?_ <;> intro hc1 hF1
 refine s_mv ?_
 refine s_fa yF37_2 ?_
 refine s_ld1 yA9 ?_
 obtain ⟨v2, hv2, hF2⟩ := bind_some' hF1
 refine s_pure [9300] (m_spec_l1In_ok fu _ _ _ hv2) ?_
 refine s_not ?_
 refine s_pkt ?_
 refine k_nil (k_seq ?_)
 refine w_cond hF2 ?_ ?_ <;> intro hc3 hF3
 refine awp_region ?_
 refine s_mv ?_
 refine s_fa yF37_2 ?_
 refine s_ld1 yA9 ?_
 refine s_bs rS [x2.name] yP30 yR9 ?_
 obtain ⟨hk4, hF4⟩ := chk_some hF3
 refine s_apF rS (fun _ => rfl) hk4 yP30 ?_
 refine s_as ?_
 refine k_nil (k_seq (awp_seq (awp_seq (awp_region ?_))))
 refine s_as ?_
 refine k_nil (k_seq (awp_block ?_))
 refine awp_mv 0 20 5020 (by conv => lhs; whnf) (by conv => lhs; whnf) rfl ?_
 refine awp_frame2 [0, 5, 21, 22, 23, 24, 25, 26, 27, 28, 29, 30, 31, 32, 33, 34] [5020] [12034] [5020] (fun a : Nat × (List ByteArray) × Int => a.1) (fun a : Nat × (List ByteArray) × Int => [(0, .ar 5020), (5, .t (.sc (.int .i64 a.2.2)))]) (fun a : Nat × (List ByteArray) × Int => [(5020, .arr (a.2.1.map rS) 9 false)]) (fun a : Nat × (List ByteArray) × Int => a.1 ≤ fu ∧ m_spec_l6Free_f_l1 a.1 x2 a.2.1 a.2.2 = some r ∧ 0 ≤ a.2.2) (fu, (x1 ++ [x2.name]), 0) ⟨Nat.le_refl _, hF4, by simp⟩ (by rfl) (by rfl) (fun _ => rfl) (hasF_cons (by conv => lhs; whnf) (by rfl) (hasF_cons (by conv => lhs; whnf) (by rfl) hasF_nil)) (hasO_cons (by conv => lhs; whnf) (by rfl) hasO_nil) (fresh_C hC rfl) (by repeat (first | exact freshS_args rfl | refine freshS_upd rfl ?_ | refine freshS_frame rfl ?_)) (by repeat (first | exact freshM_no | exact objs_fresh rfl | refine freshM_upd rfl ?_ | refine freshM_frame rfl ?_)) ?_
 clear hF4
 rintro ⟨fu, g5, g6⟩ ⟨hl7, hF5, hn_g6⟩
 dsimp only at hl7 hF5 hn_g6 ⊢
 obtain _ | fu := fu
 · rw [m_spec_l6Free_f_l1] at hF5; cases hF5
 rw [m_spec_l6Free_f_l1] at hF5
 refine awp_seq (awp_seq (awp_region ?_))
 refine s_mv ?_
 refine s_fa yF37_6 ?_
 refine s_ld1 yA35 ?_
 refine s_lenT yU35 ?_
 refine s_lt ?_
 refine k_nil (k_seq ?_)
 refine w_cond hF5 ?_ ?_ <;> intro hc8 hF6
 refine awp_lenT 23 (fun hb9 => ?_)
 refine awp_skip (k_seq (awp_seq (awp_block (awp_region ?_))))
 refine s_mv ?_
 refine s_fa yF37_6 ?_
 refine s_ld1 yA35 ?_
 refine s_mv ?_
 obtain ⟨v10, hv10, hF7⟩ := bind_some' hF6
 refine s_ixT Core.row hv10 (Core.row_eq _) yE35 ?_
 refine s_ldN yA37 yS37 ?_
 obtain ⟨v11, hv11, hF8⟩ := bind_some' hF7
 refine s_call [(9300, 5020), (9200, 12034)] [] _ _ (ih_m_spec_l6Free_f fu (by omega) _ _ _ hv11) ?_
 refine s_as ?_
 refine k_nil (k_blk (k_seq (awp_region ?_)))
 refine s_mv ?_
 refine s_add (winc2 hc8 hb9 hn_g6) ?_
 refine s_as ?_
 refine k_nil ?_
 exact s_rn (fu, v11, (g6 + 1)) ⟨by first | omega | (dsimp only; omega), hF8, by first | omega | (dsimp only; omega)⟩ [(5020, 12034)]
 refine awp_exit (k_seq_exit (k_rnd_exit2 (k_blk_exit (k_seq (awp_seq (awp_region ?_))))))
 refine s_mv ?_
 refine s_as ?_
 refine k_nil (k_seq ?_)
 refine awp_mv 4 5020 9200 (by conv => lhs; whnf) (by conv => lhs; whnf) rfl ?_
 refine awp_kill 9300 rfl ?_
 refine awp_ret (k_fin ?_)
 cases hF6
 exact ends_a _ [] Try.results64
 refine awp_skip (k_seq (awp_seq (awp_seq (awp_region ?_))))
 refine s_as ?_
 refine k_nil (k_seq (awp_block ?_))
 refine awp_mv 0 9300 5040 (by conv => lhs; whnf) (by conv => lhs; whnf) rfl ?_
 refine awp_frame2 [0, 5, 21, 22, 23, 24, 25, 26, 27, 28, 29, 30, 31, 32, 33, 34] [5040] [12034] [5040] (fun a : Nat × (List ByteArray) × Int => a.1) (fun a : Nat × (List ByteArray) × Int => [(0, .ar 5040), (5, .t (.sc (.int .i64 a.2.2)))]) (fun a : Nat × (List ByteArray) × Int => [(5040, .arr (a.2.1.map rS) 9 false)]) (fun a : Nat × (List ByteArray) × Int => a.1 ≤ fu ∧ m_spec_l6Free_f_l1 a.1 x2 a.2.1 a.2.2 = some r ∧ 0 ≤ a.2.2) (fu, x1, 0) ⟨Nat.le_refl _, hF3, by simp⟩ (by rfl) (by rfl) (fun _ => rfl) (hasF_cons (by conv => lhs; whnf) (by rfl) (hasF_cons (by conv => lhs; whnf) (by rfl) hasF_nil)) (hasO_cons (by conv => lhs; whnf) (by rfl) hasO_nil) (fresh_C hC rfl) (by repeat (first | exact freshS_args rfl | refine freshS_upd rfl ?_ | refine freshS_frame rfl ?_)) (by repeat (first | exact freshM_no | exact objs_fresh rfl | refine freshM_upd rfl ?_ | refine freshM_frame rfl ?_)) ?_
 clear hF3
 rintro ⟨fu, g12, g13⟩ ⟨hl14, hF4, hn_g13⟩
 dsimp only at hl14 hF4 hn_g13 ⊢
 obtain _ | fu := fu
 · rw [m_spec_l6Free_f_l1] at hF4; cases hF4
 rw [m_spec_l6Free_f_l1] at hF4
 refine awp_seq (awp_seq (awp_region ?_))
 refine s_mv ?_
 refine s_fa yF37_6 ?_
 refine s_ld1 yA35 ?_
 refine s_lenT yU35 ?_
 refine s_lt ?_
 refine k_nil (k_seq ?_)
 refine w_cond hF4 ?_ ?_ <;> intro hc15 hF5
 refine awp_lenT 23 (fun hb16 => ?_)
 refine awp_skip (k_seq (awp_seq (awp_block (awp_region ?_))))
 refine s_mv ?_
 refine s_fa yF37_6 ?_
 refine s_ld1 yA35 ?_
 refine s_mv ?_
 obtain ⟨v17, hv17, hF6⟩ := bind_some' hF5
 refine s_ixT Core.row hv17 (Core.row_eq _) yE35 ?_
 refine s_ldN yA37 yS37 ?_
 obtain ⟨v18, hv18, hF7⟩ := bind_some' hF6
 refine s_call [(9300, 5040), (9200, 12034)] [] _ _ (ih_m_spec_l6Free_f fu (by omega) _ _ _ hv18) ?_
 refine s_as ?_
 refine k_nil (k_blk (k_seq (awp_region ?_)))
 refine s_mv ?_
 refine s_add (winc2 hc15 hb16 hn_g13) ?_
 refine s_as ?_
 refine k_nil ?_
 exact s_rn (fu, v18, (g13 + 1)) ⟨by first | omega | (dsimp only; omega), hF7, by first | omega | (dsimp only; omega)⟩ [(5040, 12034)]
 refine awp_exit (k_seq_exit (k_rnd_exit2 (k_blk_exit (k_seq (awp_seq (awp_region ?_))))))
 refine s_mv ?_
 refine s_as ?_
 refine k_nil (k_seq ?_)
 refine awp_mv 4 5040 9200 (by conv => lhs; whnf) (by conv => lhs; whnf) rfl ?_
 refine awp_ret (k_fin ?_)
 cases hF5
 exact ends_a _ [] Try.results64
 iterate 5 refine r_no rfl ?_
 refine s_pkf ?_
 refine k_nil (k_seq (awp_false rfl (awp_skip (k_seq (awp_seq (awp_seq (awp_region ?_)))))))
 refine s_as ?_
 refine k_nil (k_seq (awp_block ?_))
 refine awp_mv 0 9300 5060 (by conv => lhs; whnf) (by conv => lhs; whnf) rfl ?_
 refine awp_frame2 [0, 5, 21, 22, 23, 24, 25, 26, 27, 28, 29, 30, 31, 32, 33, 34] [5060] [12034] [5060] (fun a : Nat × (List ByteArray) × Int => a.1) (fun a : Nat × (List ByteArray) × Int => [(0, .ar 5060), (5, .t (.sc (.int .i64 a.2.2)))]) (fun a : Nat × (List ByteArray) × Int => [(5060, .arr (a.2.1.map rS) 9 false)]) (fun a : Nat × (List ByteArray) × Int => a.1 ≤ fu ∧ m_spec_l6Free_f_l1 a.1 x2 a.2.1 a.2.2 = some r ∧ 0 ≤ a.2.2) (fu, x1, 0) ⟨Nat.le_refl _, hF1, by simp⟩ (by rfl) (by rfl) (fun _ => rfl) (hasF_cons (by conv => lhs; whnf) (by rfl) (hasF_cons (by conv => lhs; whnf) (by rfl) hasF_nil)) (hasO_cons (by conv => lhs; whnf) (by rfl) hasO_nil) (fresh_C hC rfl) (by repeat (first | exact freshS_args rfl | refine freshS_upd rfl ?_ | refine freshS_frame rfl ?_)) (by repeat (first | exact freshM_no | exact objs_fresh rfl | refine freshM_upd rfl ?_ | refine freshM_frame rfl ?_)) ?_
 clear hF1
 rintro ⟨fu, g19, g20⟩ ⟨hl21, hF2, hn_g20⟩
 dsimp only at hl21 hF2 hn_g20 ⊢
 obtain _ | fu := fu
 · rw [m_spec_l6Free_f_l1] at hF2; cases hF2
 rw [m_spec_l6Free_f_l1] at hF2
 refine awp_seq (awp_seq (awp_region ?_))
 refine s_mv ?_
 refine s_fa yF37_6 ?_
 refine s_ld1 yA35 ?_
 refine s_lenT yU35 ?_
 refine s_lt ?_
 refine k_nil (k_seq ?_)
 refine w_cond hF2 ?_ ?_ <;> intro hc22 hF3
 refine awp_lenT 23 (fun hb23 => ?_)
 refine awp_skip (k_seq (awp_seq (awp_block (awp_region ?_))))
 refine s_mv ?_
 refine s_fa yF37_6 ?_
 refine s_ld1 yA35 ?_
 refine s_mv ?_
 obtain ⟨v24, hv24, hF4⟩ := bind_some' hF3
 refine s_ixT Core.row hv24 (Core.row_eq _) yE35 ?_
 refine s_ldN yA37 yS37 ?_
 obtain ⟨v25, hv25, hF5⟩ := bind_some' hF4
 refine s_call [(9300, 5060), (9200, 12034)] [] _ _ (ih_m_spec_l6Free_f fu (by omega) _ _ _ hv25) ?_
 refine s_as ?_
 refine k_nil (k_blk (k_seq (awp_region ?_)))
 refine s_mv ?_
 refine s_add (winc2 hc22 hb23 hn_g20) ?_
 refine s_as ?_
 refine k_nil ?_
 exact s_rn (fu, v25, (g20 + 1)) ⟨by first | omega | (dsimp only; omega), hF5, by first | omega | (dsimp only; omega)⟩ [(5060, 12034)]
 refine awp_exit (k_seq_exit (k_rnd_exit2 (k_blk_exit (k_seq (awp_seq (awp_region ?_))))))
 refine s_mv ?_
 refine s_as ?_
 refine k_nil (k_seq ?_)
 refine awp_mv 4 5060 9200 (by conv => lhs; whnf) (by conv => lhs; whnf) rfl ?_
 refine awp_ret (k_fin ?_)
 cases hF3
 exact ends_a _ [] Try.results64
theorem m_spec_l6Free_f_all (fuel : Nat) : m_spec_l6Free_f_AC fuel := by
 induction fuel using Nat.strongRecOn with
 | _ N ih =>
   cases N with
   | zero => exact (by intro x1 x2 r h; rw [m_spec_l6Free_f] at h; cases h)
   | succ fu => exact m_spec_l6Free_f_st fu (fun k hk => (ih k (by omega)))
theorem m_spec_l6Free_f_ok (fuel : Nat) : m_spec_l6Free_f_AC fuel := (m_spec_l6Free_f_all fuel)
def m_spec_l6Free_AC (fuel : Nat) : Prop := ∀ (x1 : (List ByteArray)) (x2 : Core) (r : (List ByteArray)), m_spec_l6Free fuel x1 x2 = some r → AC Try.prog 64 [.ar 9300, .ag [.t (.sc (.int .i64 x2.kind)), .t (.sc (.int .i64 x2.id)), .t (.sc (.str x2.name)), .t (.sc (.int .i64 x2.n)), .t (.sl (x2.ids.map rI)), .t (.sc (.int .i64 x2.data.kind)), .t (.sc (.str x2.data.name)), .t (.sc (.int .i64 x2.data.n)), .t (.sl (x2.data.scopes.map rI)), .t (.sl (x2.data.kids.map Form.row)), .t (.sl (x2.kids.map Core.row))]] (objs [(9300, .arr (x1.map rS) 9 true)]) (.ar 9200) (objs [(9300, .dead), (9200, .arr (r.map rS) 9 false)])
theorem m_spec_l6Free_ok (fuel : Nat) : m_spec_l6Free_AC fuel := by
 intro x1 x2 r hF0
 unfold m_spec_l6Free at hF0
 refine AC_i [.ar 9200] Try.func64 rfl Try.ntmps64 ?_
 intro C hC
 refine awp_seq (awp_region ?_)
 refine s_box ?_
 refine s_as ?_
 refine k_nil (k_seq (awp_seq (awp_seq (awp_region ?_))))
 refine s_fa yF37_0 ?_
 refine s_ld1 yA3 ?_
 refine s_eq ?_
 refine s_mv ?_
 refine w_guard _ 9 hF0 ?_ ?_ <;> intro hc1 hF1
 refine s_mv ?_
 refine s_fa yF37_2 ?_
 refine s_ld1 yA9 ?_
 obtain ⟨v2, hv2, hF2⟩ := bind_some' hF1
 refine s_pure [9300] (m_spec_l1In_ok fuel _ _ _ hv2) ?_
 refine s_not ?_
 refine s_pkt ?_
 refine k_nil (k_seq ?_)
 refine w_cond hF2 ?_ ?_ <;> intro hc3 hF3
 refine awp_region ?_
 refine s_mv ?_
 refine s_fa yF37_2 ?_
 refine s_ld1 yA9 ?_
 refine s_bs rS [x2.name] yP30 yR9 ?_
 obtain ⟨hk4, hF4⟩ := chk_some hF3
 refine s_apF rS (fun _ => rfl) hk4 yP30 ?_
 refine s_as ?_
 refine k_nil (k_seq (awp_seq (awp_seq (awp_region ?_))))
 refine s_as ?_
 refine k_nil (k_seq (awp_block ?_))
 refine awp_mv 0 20 5020 (by conv => lhs; whnf) (by conv => lhs; whnf) rfl ?_
 refine awp_frame2 [0, 5, 21, 22, 23, 24, 25, 26, 27, 28, 29, 30, 31, 32, 33, 34] [5020] [12034] [5020] (fun a : Nat × (List ByteArray) × Int => a.1) (fun a : Nat × (List ByteArray) × Int => [(0, .ar 5020), (5, .t (.sc (.int .i64 a.2.2)))]) (fun a : Nat × (List ByteArray) × Int => [(5020, .arr (a.2.1.map rS) 9 false)]) (fun a : Nat × (List ByteArray) × Int => a.1 ≤ fuel ∧ m_spec_l6Free_f_l1 a.1 x2 a.2.1 a.2.2 = some r ∧ 0 ≤ a.2.2) (fuel, (x1 ++ [x2.name]), 0) ⟨Nat.le_refl _, hF4, by simp⟩ (by rfl) (by rfl) (fun _ => rfl) (hasF_cons (by conv => lhs; whnf) (by rfl) (hasF_cons (by conv => lhs; whnf) (by rfl) hasF_nil)) (hasO_cons (by conv => lhs; whnf) (by rfl) hasO_nil) (fresh_C hC rfl) (by repeat (first | exact freshS_args rfl | refine freshS_upd rfl ?_ | refine freshS_frame rfl ?_)) (by repeat (first | exact freshM_no | exact objs_fresh rfl | refine freshM_upd rfl ?_ | refine freshM_frame rfl ?_)) ?_
 clear hF4
 rintro ⟨fu, g5, g6⟩ ⟨hl7, hF5, hn_g6⟩
 dsimp only at hl7 hF5 hn_g6 ⊢
 obtain _ | fu := fu
 · rw [m_spec_l6Free_f_l1] at hF5; cases hF5
 rw [m_spec_l6Free_f_l1] at hF5
 refine awp_seq (awp_seq (awp_region ?_))
 refine s_mv ?_
 refine s_fa yF37_6 ?_
 refine s_ld1 yA35 ?_
 refine s_lenT yU35 ?_
 refine s_lt ?_
 refine k_nil (k_seq ?_)
 refine w_cond hF5 ?_ ?_ <;> intro hc8 hF6
 refine awp_lenT 23 (fun hb9 => ?_)
 refine awp_skip (k_seq (awp_seq (awp_block (awp_region ?_))))
 refine s_mv ?_
 refine s_fa yF37_6 ?_
 refine s_ld1 yA35 ?_
 refine s_mv ?_
 obtain ⟨v10, hv10, hF7⟩ := bind_some' hF6
 refine s_ixT Core.row hv10 (Core.row_eq _) yE35 ?_
 refine s_ldN yA37 yS37 ?_
 obtain ⟨v11, hv11, hF8⟩ := bind_some' hF7
 refine s_call [(9300, 5020), (9200, 12034)] [] _ _ (m_spec_l6Free_f_ok fu _ _ _ hv11) ?_
 refine s_as ?_
 refine k_nil (k_blk (k_seq (awp_region ?_)))
 refine s_mv ?_
 refine s_add (winc2 hc8 hb9 hn_g6) ?_
 refine s_as ?_
 refine k_nil ?_
 exact s_rn (fu, v11, (g6 + 1)) ⟨by first | omega | (dsimp only; omega), hF8, by first | omega | (dsimp only; omega)⟩ [(5020, 12034)]
 refine awp_exit (k_seq_exit (k_rnd_exit2 (k_blk_exit (k_seq (awp_seq (awp_region ?_))))))
 refine s_mv ?_
 refine s_as ?_
 refine k_nil (k_seq ?_)
 refine awp_mv 4 5020 9200 (by conv => lhs; whnf) (by conv => lhs; whnf) rfl ?_
 refine awp_kill 9300 rfl ?_
 refine awp_ret (k_fin ?_)
 cases hF6
 exact ends_a _ [] Try.results64
 refine awp_skip (k_seq (awp_seq (awp_seq (awp_region ?_))))
 refine s_as ?_
 refine k_nil (k_seq (awp_block ?_))
 refine awp_mv 0 9300 5040 (by conv => lhs; whnf) (by conv => lhs; whnf) rfl ?_
 refine awp_frame2 [0, 5, 21, 22, 23, 24, 25, 26, 27, 28, 29, 30, 31, 32, 33, 34] [5040] [12034] [5040] (fun a : Nat × (List ByteArray) × Int => a.1) (fun a : Nat × (List ByteArray) × Int => [(0, .ar 5040), (5, .t (.sc (.int .i64 a.2.2)))]) (fun a : Nat × (List ByteArray) × Int => [(5040, .arr (a.2.1.map rS) 9 false)]) (fun a : Nat × (List ByteArray) × Int => a.1 ≤ fuel ∧ m_spec_l6Free_f_l1 a.1 x2 a.2.1 a.2.2 = some r ∧ 0 ≤ a.2.2) (fuel, x1, 0) ⟨Nat.le_refl _, hF3, by simp⟩ (by rfl) (by rfl) (fun _ => rfl) (hasF_cons (by conv => lhs; whnf) (by rfl) (hasF_cons (by conv => lhs; whnf) (by rfl) hasF_nil)) (hasO_cons (by conv => lhs; whnf) (by rfl) hasO_nil) (fresh_C hC rfl) (by repeat (first | exact freshS_args rfl | refine freshS_upd rfl ?_ | refine freshS_frame rfl ?_)) (by repeat (first | exact freshM_no | exact objs_fresh rfl | refine freshM_upd rfl ?_ | refine freshM_frame rfl ?_)) ?_
 clear hF3
 rintro ⟨fu, g12, g13⟩ ⟨hl14, hF4, hn_g13⟩
 dsimp only at hl14 hF4 hn_g13 ⊢
 obtain _ | fu := fu
 · rw [m_spec_l6Free_f_l1] at hF4; cases hF4
 rw [m_spec_l6Free_f_l1] at hF4
 refine awp_seq (awp_seq (awp_region ?_))
 refine s_mv ?_
 refine s_fa yF37_6 ?_
 refine s_ld1 yA35 ?_
 refine s_lenT yU35 ?_
 refine s_lt ?_
 refine k_nil (k_seq ?_)
 refine w_cond hF4 ?_ ?_ <;> intro hc15 hF5
 refine awp_lenT 23 (fun hb16 => ?_)
 refine awp_skip (k_seq (awp_seq (awp_block (awp_region ?_))))
 refine s_mv ?_
 refine s_fa yF37_6 ?_
 refine s_ld1 yA35 ?_
 refine s_mv ?_
 obtain ⟨v17, hv17, hF6⟩ := bind_some' hF5
 refine s_ixT Core.row hv17 (Core.row_eq _) yE35 ?_
 refine s_ldN yA37 yS37 ?_
 obtain ⟨v18, hv18, hF7⟩ := bind_some' hF6
 refine s_call [(9300, 5040), (9200, 12034)] [] _ _ (m_spec_l6Free_f_ok fu _ _ _ hv18) ?_
 refine s_as ?_
 refine k_nil (k_blk (k_seq (awp_region ?_)))
 refine s_mv ?_
 refine s_add (winc2 hc15 hb16 hn_g13) ?_
 refine s_as ?_
 refine k_nil ?_
 exact s_rn (fu, v18, (g13 + 1)) ⟨by first | omega | (dsimp only; omega), hF7, by first | omega | (dsimp only; omega)⟩ [(5040, 12034)]
 refine awp_exit (k_seq_exit (k_rnd_exit2 (k_blk_exit (k_seq (awp_seq (awp_region ?_))))))
 refine s_mv ?_
 refine s_as ?_
 refine k_nil (k_seq ?_)
 refine awp_mv 4 5040 9200 (by conv => lhs; whnf) (by conv => lhs; whnf) rfl ?_
 refine awp_ret (k_fin ?_)
 cases hF5
 exact ends_a _ [] Try.results64
 iterate 5 refine r_no rfl ?_
 refine s_pkf ?_
 refine k_nil (k_seq (awp_false rfl (awp_skip (k_seq (awp_seq (awp_seq (awp_region ?_)))))))
 refine s_as ?_
 refine k_nil (k_seq (awp_block ?_))
 refine awp_mv 0 9300 5060 (by conv => lhs; whnf) (by conv => lhs; whnf) rfl ?_
 refine awp_frz 5060 (by conv => lhs; whnf) ?_
 refine awp_frame2 [0, 5, 21, 22, 23, 24, 25, 26, 27, 28, 29, 30, 31, 32, 33, 34] [5060] [12034] [5060] (fun a : Nat × (List ByteArray) × Int => a.1) (fun a : Nat × (List ByteArray) × Int => [(0, .ar 5060), (5, .t (.sc (.int .i64 a.2.2)))]) (fun a : Nat × (List ByteArray) × Int => [(5060, .arr (a.2.1.map rS) 9 false)]) (fun a : Nat × (List ByteArray) × Int => a.1 ≤ fuel ∧ m_spec_l6Free_f_l1 a.1 x2 a.2.1 a.2.2 = some r ∧ 0 ≤ a.2.2) (fuel, x1, 0) ⟨Nat.le_refl _, hF1, by simp⟩ (by rfl) (by rfl) (fun _ => rfl) (hasF_cons (by conv => lhs; whnf) (by rfl) (hasF_cons (by conv => lhs; whnf) (by rfl) hasF_nil)) (hasO_cons (by conv => lhs; whnf) (by rfl) hasO_nil) (fresh_C hC rfl) (by repeat (first | exact freshS_args rfl | refine freshS_upd rfl ?_ | refine freshS_frame rfl ?_)) (by repeat (first | exact freshM_no | exact objs_fresh rfl | refine freshM_upd rfl ?_ | refine freshM_frame rfl ?_)) ?_
 clear hF1
 rintro ⟨fu, g19, g20⟩ ⟨hl21, hF2, hn_g20⟩
 dsimp only at hl21 hF2 hn_g20 ⊢
 obtain _ | fu := fu
 · rw [m_spec_l6Free_f_l1] at hF2; cases hF2
 rw [m_spec_l6Free_f_l1] at hF2
 refine awp_seq (awp_seq (awp_region ?_))
 refine s_mv ?_
 refine s_fa yF37_6 ?_
 refine s_ld1 yA35 ?_
 refine s_lenT yU35 ?_
 refine s_lt ?_
 refine k_nil (k_seq ?_)
 refine w_cond hF2 ?_ ?_ <;> intro hc22 hF3
 refine awp_lenT 23 (fun hb23 => ?_)
 refine awp_skip (k_seq (awp_seq (awp_block (awp_region ?_))))
 refine s_mv ?_
 refine s_fa yF37_6 ?_
 refine s_ld1 yA35 ?_
 refine s_mv ?_
 obtain ⟨v24, hv24, hF4⟩ := bind_some' hF3
 refine s_ixT Core.row hv24 (Core.row_eq _) yE35 ?_
 refine s_ldN yA37 yS37 ?_
 obtain ⟨v25, hv25, hF5⟩ := bind_some' hF4
 refine s_call [(9300, 5060), (9200, 12034)] [] _ _ (m_spec_l6Free_f_ok fu _ _ _ hv25) ?_
 refine s_as ?_
 refine k_nil (k_blk (k_seq (awp_region ?_)))
 refine s_mv ?_
 refine s_add (winc2 hc22 hb23 hn_g20) ?_
 refine s_as ?_
 refine k_nil ?_
 exact s_rn (fu, v25, (g20 + 1)) ⟨by first | omega | (dsimp only; omega), hF5, by first | omega | (dsimp only; omega)⟩ [(5060, 12034)]
 refine awp_exit (k_seq_exit (k_rnd_exit2 (k_blk_exit (k_seq (awp_seq (awp_region ?_))))))
 refine s_mv ?_
 refine s_as ?_
 refine k_nil (k_seq ?_)
 refine awp_mv 4 5060 9200 (by conv => lhs; whnf) (by conv => lhs; whnf) rfl ?_
 refine awp_ret (k_fin ?_)
 cases hF3
 exact ends_a _ [] Try.results64
def m_spec_FreeOf_AC (fuel : Nat) : Prop := ∀ (x1 : Core) (r : (List ByteArray)), m_spec_FreeOf fuel x1 = some r → AC Try.prog 12 [.ag [.t (.sc (.int .i64 x1.kind)), .t (.sc (.int .i64 x1.id)), .t (.sc (.str x1.name)), .t (.sc (.int .i64 x1.n)), .t (.sl (x1.ids.map rI)), .t (.sc (.int .i64 x1.data.kind)), .t (.sc (.str x1.data.name)), .t (.sc (.int .i64 x1.data.n)), .t (.sl (x1.data.scopes.map rI)), .t (.sl (x1.data.kids.map Form.row)), .t (.sl (x1.kids.map Core.row))]] noOb (.t (.sl (r.map rS))) noOb
theorem m_spec_FreeOf_ok (fuel : Nat) : m_spec_FreeOf_AC fuel := by
 intro x1 r hF0
 unfold m_spec_FreeOf at hF0
 refine AC_i [.t (.sl (r.map rS))] Try.func12 rfl Try.ntmps12 ?_
 intro C hC
 refine awp_seq (awp_region ?_)
 refine s_box ?_
 refine s_as ?_
 refine k_nil (k_seq (awp_seq (awp_region ?_)))
 refine s_bs rS ([] : List ByteArray) yP30 yR9 ?_
 refine s_ldW yA37 yS37 ?_
 obtain ⟨v1, hv1, hF1⟩ := bind_some' hF0
 refine s_call [(9300, 3), (9200, 12005)] [] _ _ (m_spec_l6Free_ok fuel _ _ _ hv1) ?_
 refine s_as ?_
 refine k_nil (k_seq (awp_ret (k_fin ?_)))
 cases hF1
 exact ends_a [] [12005] Try.results12
def m_slices_Index_string_AC (fuel : Nat) : Prop := ∀ (x1 : (List ByteArray)) (x2 : ByteArray) (r : Int), m_slices_Index_string fuel x1 x2 = some r → AC Try.prog 156 [.t (.sl (x1.map rS)), .t (.sc (.str x2))] noOb (.t (.sc (.int .i64 r))) noOb
theorem m_slices_Index_string_ok (fuel : Nat) : m_slices_Index_string_AC fuel := by
 intro x1 x2 r hF0
 unfold m_slices_Index_string at hF0
 refine AC_i [.t (.sc (.int .i64 r))] Try.func156 rfl Try.ntmps156 ?_
 intro C hC
 refine awp_seq (awp_region ?_)
 refine s_as ?_
 refine k_nil (k_seq (awp_seq (awp_seq (awp_region ?_))))
 refine s_mv ?_
 refine s_lenT yU30 ?_
 refine s_mv ?_
 refine k_nil (k_seq (awp_block ?_))
 refine awp_fr (β := Int) [4, 5, 8, 9, 10, 11, 12, 13, 14, 15, 16, 17, 18] [] [] (fun a => [(8, .t (.sc (.int .i64 a.2)))]) (fun a => []) (fun a => a.1 ≤ fuel ∧ m_slices_Index_string_l1 a.1 x1 x2 a.2 = some r ∧ 0 ≤ a.2) (fuel, 0) ⟨Nat.le_refl _, hF0, by simp⟩ ?_
 clear hF0
 rintro ⟨fu, g1⟩ ⟨hl2, hF1, hn_g1⟩
 dsimp only at hl2 hF1 hn_g1 ⊢
 obtain _ | fu := fu
 · rw [m_slices_Index_string_l1] at hF1; cases hF1
 rw [m_slices_Index_string_l1] at hF1
 refine awp_seq (awp_region ?_)
 refine s_lt ?_
 refine k_nil (k_seq (awp_seq ?_))
 refine w_cond hF1 ?_ ?_ <;> intro hc3 hF2
 refine awp_lenT 0 (fun hb4 => ?_)
 refine awp_skip (k_seq (awp_seq (awp_block (awp_seq (awp_region ?_)))))
 refine s_mv ?_
 refine s_as ?_
 refine k_nil (k_seq (awp_seq (awp_region ?_)))
 iterate 3 refine s_mv ?_
 obtain ⟨v5, hv5, hF3⟩ := bind_some' hF2
 refine s_ixT rS hv5 rfl yE30 ?_
 refine s_ld1 yA9 ?_
 refine s_eqS ?_
 refine k_nil (k_seq ?_)
 refine w_cond hF3 ?_ ?_ <;> intro hc6 hF4
 refine awp_seq (awp_region ?_)
 refine s_mv ?_
 refine s_as ?_
 refine k_nil (k_seq (awp_ret (k_blk_ret (k_seq_ret (k_rnd_ret2 (k_blk_ret (k_seq_ret (k_fin ?_))))))))
 cases hF4
 exact ends_a [] [] Try.results156
 refine awp_skip (k_blk (k_seq (awp_region ?_)))
 refine s_add (winc2 hc3 hb4 hn_g1) ?_
 refine s_mv ?_
 refine k_nil ?_
 exact s_rn (fu, (g1 + 1)) ⟨by first | omega | (dsimp only; omega), hF4, by first | omega | (dsimp only; omega)⟩
 refine awp_exit (k_seq_exit (k_rnd_exit2 (k_blk_exit (k_seq (awp_seq (awp_region ?_))))))
 refine s_as ?_
 refine k_nil (k_seq (awp_ret (k_fin ?_)))
 cases hF2
 exact ends_a [] [] Try.results156
def m_slices_Contains_string_AC (fuel : Nat) : Prop := ∀ (x1 : (List ByteArray)) (x2 : ByteArray) (r : Bool), m_slices_Contains_string fuel x1 x2 = some r → AC Try.prog 112 [.t (.sl (x1.map rS)), .t (.sc (.str x2))] noOb (.t (.sc (.bool r))) noOb
theorem m_slices_Contains_string_ok (fuel : Nat) : m_slices_Contains_string_AC fuel := by
 intro x1 x2 r hF0
 unfold m_slices_Contains_string at hF0
 refine AC_i [.t (.sc (.bool r))] Try.func112 rfl Try.ntmps112 ?_
 intro C hC
 refine awp_seq (awp_region ?_)
 refine s_as ?_
 refine k_nil (k_seq (awp_seq (awp_region ?_)))
 refine s_mv ?_
 refine s_mv ?_
 obtain ⟨v1, hv1, hF1⟩ := bind_some' hF0
 refine s_pure [] (m_slices_Index_string_ok fuel _ _ _ hv1) ?_
 refine s_ge ?_
 refine s_as ?_
 refine k_nil (k_seq (awp_ret (k_fin ?_)))
 cases hF1
 exact ends_a [] [] Try.results112
def m_impl_freeOf_d_D_AC (fuel : Nat) : Prop := ∀ (x1 : Core) (x2 : (List ByteArray)) (r : (List ByteArray)), m_impl_freeOf_d fuel x1 x2 = some r → AC Try.prog 67 [.ag [.t (.sc (.int .i64 x1.kind)), .t (.sc (.int .i64 x1.id)), .t (.sc (.str x1.name)), .t (.sc (.int .i64 x1.n)), .t (.sl (x1.ids.map rI)), .t (.sc (.int .i64 x1.data.kind)), .t (.sc (.str x1.data.name)), .t (.sc (.int .i64 x1.data.n)), .t (.sl (x1.data.scopes.map rI)), .t (.sl (x1.data.kids.map Form.row)), .t (.sl (x1.kids.map Core.row))], .ar 9301] (objs [(9301, .arr (x2.map rS) 9 true)]) (.ar 9200) (objs [(9301, .dead), (9200, .arr (r.map rS) 9 true)])
theorem m_impl_freeOf_d_D_st (fu : Nat) (ih_m_impl_freeOf_d_D : ∀ k, k ≤ fu → m_impl_freeOf_d_D_AC k) : m_impl_freeOf_d_D_AC (fu + 1) := by
 intro x1 x2 r hF0
 rw [m_impl_freeOf_d] at hF0
 refine AC_i [.ar 9200] Try.func67 rfl Try.ntmps67 ?_
 intro C hC
 refine awp_seq (awp_region ?_)
 refine s_box ?_
 refine s_as ?_
 refine k_nil (k_seq (awp_seq (awp_seq (awp_region ?_))))
 refine s_fa yF37_0 ?_
 refine s_ld1 yA3 ?_
 refine s_eq ?_
 refine s_mv ?_
 refine w_guard _ 10 hF0 ?_ ?_ <;> intro hc1 hF1
 refine s_mv ?_
 refine s_fa yF37_2 ?_
 refine s_ld1 yA9 ?_
 obtain ⟨v2, hv2, hF2⟩ := bind_some' hF1
 refine s_call [(9700, 9301)] [] [(9700, .arr (x2.map rS) 9 true)] [(9700, .arr (x2.map rS) 9 true)] (ac_lend (args := [.ar 9700, .t (.sc (.str x1.name))]) [(9700, .arr (x2.map rS) 9 true)] [] (m_slices_Contains_string_ok fu _ _ _ hv2) rfl (by simp only [V.lendL, V.lend, objs_cons, objs_nil, Nat.reduceEqDiff, reduceIte, if_true, if_false, Form.lendM, Core.lendM, Hit.lendM, Rule.lendM, Bind.lendM, Macro.lendM]; try rfl) (by rfl) (by rfl) (by rfl) (by rfl) (by simp only [List.all_cons, List.all_nil, Ob.flat, flat_rI, flat_rS, Form.flatM, Core.flatM, Hit.flatM, Rule.flatM, Bind.flatM, Macro.flatM, Bool.and_self, Bool.true_and]) (by rfl)) ?_
 refine s_not ?_
 refine s_pkt ?_
 refine k_nil (k_seq ?_)
 refine w_cond hF2 ?_ ?_ <;> intro hc3 hF3
 refine awp_region ?_
 refine s_mv ?_
 refine s_fa yF37_2 ?_
 refine s_ld1 yA9 ?_
 refine s_bs rS [x1.name] yP30 yR9 ?_
 obtain ⟨hk4, hF4⟩ := chk_some hF3
 refine s_apT rS (fun _ => rfl) hk4 yP30 ?_
 refine s_as ?_
 refine k_nil (k_seq (awp_seq (awp_seq (awp_region ?_))))
 refine s_fa yF37_6 ?_
 refine s_ld1 yA35 ?_
 refine s_lenT yU35 ?_
 refine s_mv ?_
 refine k_nil (k_seq (awp_block ?_))
 refine awp_mv 1 21 5020 (by conv => lhs; whnf) (by conv => lhs; whnf) rfl ?_
 refine awp_frame2 [1, 6, 25, 26, 27, 28, 29, 30, 31, 32] [5020] [6, 12031] [5020] (fun a : Nat × (List ByteArray) × Int => a.1) (fun a : Nat × (List ByteArray) × Int => [(1, .ar 5020), (25, .t (.sc (.int .i64 a.2.2)))]) (fun a : Nat × (List ByteArray) × Int => [(5020, .arr (a.2.1.map rS) 9 true)]) (fun a : Nat × (List ByteArray) × Int => a.1 ≤ fu ∧ m_impl_freeOf_d_l1 a.1 x1 a.2.1 a.2.2 = some r ∧ 0 ≤ a.2.2) (fu, (x2 ++ [x1.name]), 0) ⟨Nat.le_refl _, hF4, by simp⟩ (by rfl) (by rfl) (fun _ => rfl) (hasF_cons (by conv => lhs; whnf) (by rfl) (hasF_cons (by conv => lhs; whnf) (by rfl) hasF_nil)) (hasO_cons (by conv => lhs; whnf) (by rfl) hasO_nil) (fresh_C hC rfl) (by repeat (first | exact freshS_args rfl | refine freshS_upd rfl ?_ | refine freshS_frame rfl ?_)) (by repeat (first | exact freshM_no | exact objs_fresh rfl | refine freshM_upd rfl ?_ | refine freshM_frame rfl ?_)) ?_
 clear hF4
 rintro ⟨fu, g5, g6⟩ ⟨hl7, hF5, hn_g6⟩
 dsimp only at hl7 hF5 hn_g6 ⊢
 obtain _ | fu := fu
 · rw [m_impl_freeOf_d_l1] at hF5; cases hF5
 rw [m_impl_freeOf_d_l1] at hF5
 refine awp_seq (awp_region ?_)
 refine s_lt ?_
 refine k_nil (k_seq (awp_seq ?_))
 refine w_cond hF5 ?_ ?_ <;> intro hc8 hF6
 refine awp_lenT 23 (fun hb9 => ?_)
 refine awp_skip (k_seq (awp_seq (awp_block (awp_seq (awp_region ?_)))))
 obtain ⟨v10, hv10, hF7⟩ := bind_some' hF6
 refine s_ixT Core.row hv10 (Core.row_eq _) yE35 ?_
 refine s_ldN yA37 yS37 ?_
 refine s_alloc yZ37 ?_
 refine s_stW yS37 ?_
 refine k_nil (k_seq (awp_region ?_))
 refine s_ldW yA37 yS37 ?_
 refine s_mv ?_
 obtain ⟨v11, hv11, hF8⟩ := bind_some' hF7
 refine s_call [(9301, 5020), (9200, 12031)] [] _ _ (ih_m_impl_freeOf_d_D fu (by omega) _ _ _ hv11) ?_
 refine s_as ?_
 refine k_nil (k_blk (k_seq (awp_region ?_)))
 refine s_add (winc2 hc8 hb9 hn_g6) ?_
 refine s_mv ?_
 refine k_nil ?_
 exact s_rn (fu, v11, (g6 + 1)) ⟨by first | omega | (dsimp only; omega), hF8, by first | omega | (dsimp only; omega)⟩ [(5020, 12031)]
 refine awp_exit (k_seq_exit (k_rnd_exit2 (k_blk_exit (k_seq (awp_seq (awp_region ?_))))))
 refine s_mv ?_
 refine s_as ?_
 refine k_nil (k_seq ?_)
 refine awp_mv 4 5020 9200 (by conv => lhs; whnf) (by conv => lhs; whnf) rfl ?_
 refine awp_ret (k_fin ?_)
 cases hF6
 exact ends_a _ [] Try.results67
 refine awp_skip (k_seq (awp_seq (awp_seq (awp_region ?_))))
 refine s_fa yF37_6 ?_
 refine s_ld1 yA35 ?_
 refine s_lenT yU35 ?_
 refine s_mv ?_
 refine k_nil (k_seq (awp_block ?_))
 refine awp_mv 1 9301 5040 (by conv => lhs; whnf) (by conv => lhs; whnf) rfl ?_
 refine awp_frame2 [1, 6, 25, 26, 27, 28, 29, 30, 31, 32] [5040] [6, 12031] [5040] (fun a : Nat × (List ByteArray) × Int => a.1) (fun a : Nat × (List ByteArray) × Int => [(1, .ar 5040), (25, .t (.sc (.int .i64 a.2.2)))]) (fun a : Nat × (List ByteArray) × Int => [(5040, .arr (a.2.1.map rS) 9 true)]) (fun a : Nat × (List ByteArray) × Int => a.1 ≤ fu ∧ m_impl_freeOf_d_l1 a.1 x1 a.2.1 a.2.2 = some r ∧ 0 ≤ a.2.2) (fu, x2, 0) ⟨Nat.le_refl _, hF3, by simp⟩ (by rfl) (by rfl) (fun _ => rfl) (hasF_cons (by conv => lhs; whnf) (by rfl) (hasF_cons (by conv => lhs; whnf) (by rfl) hasF_nil)) (hasO_cons (by conv => lhs; whnf) (by rfl) hasO_nil) (fresh_C hC rfl) (by repeat (first | exact freshS_args rfl | refine freshS_upd rfl ?_ | refine freshS_frame rfl ?_)) (by repeat (first | exact freshM_no | exact objs_fresh rfl | refine freshM_upd rfl ?_ | refine freshM_frame rfl ?_)) ?_
 clear hF3
 rintro ⟨fu, g12, g13⟩ ⟨hl14, hF4, hn_g13⟩
 dsimp only at hl14 hF4 hn_g13 ⊢
 obtain _ | fu := fu
 · rw [m_impl_freeOf_d_l1] at hF4; cases hF4
 rw [m_impl_freeOf_d_l1] at hF4
 refine awp_seq (awp_region ?_)
 refine s_lt ?_
 refine k_nil (k_seq (awp_seq ?_))
 refine w_cond hF4 ?_ ?_ <;> intro hc15 hF5
 refine awp_lenT 23 (fun hb16 => ?_)
 refine awp_skip (k_seq (awp_seq (awp_block (awp_seq (awp_region ?_)))))
 obtain ⟨v17, hv17, hF6⟩ := bind_some' hF5
 refine s_ixT Core.row hv17 (Core.row_eq _) yE35 ?_
 refine s_ldN yA37 yS37 ?_
 refine s_alloc yZ37 ?_
 refine s_stW yS37 ?_
 refine k_nil (k_seq (awp_region ?_))
 refine s_ldW yA37 yS37 ?_
 refine s_mv ?_
 obtain ⟨v18, hv18, hF7⟩ := bind_some' hF6
 refine s_call [(9301, 5040), (9200, 12031)] [] _ _ (ih_m_impl_freeOf_d_D fu (by omega) _ _ _ hv18) ?_
 refine s_as ?_
 refine k_nil (k_blk (k_seq (awp_region ?_)))
 refine s_add (winc2 hc15 hb16 hn_g13) ?_
 refine s_mv ?_
 refine k_nil ?_
 exact s_rn (fu, v18, (g13 + 1)) ⟨by first | omega | (dsimp only; omega), hF7, by first | omega | (dsimp only; omega)⟩ [(5040, 12031)]
 refine awp_exit (k_seq_exit (k_rnd_exit2 (k_blk_exit (k_seq (awp_seq (awp_region ?_))))))
 refine s_mv ?_
 refine s_as ?_
 refine k_nil (k_seq ?_)
 refine awp_mv 4 5040 9200 (by conv => lhs; whnf) (by conv => lhs; whnf) rfl ?_
 refine awp_ret (k_fin ?_)
 cases hF5
 exact ends_a _ [] Try.results67
 iterate 5 refine r_no rfl ?_
 refine s_pkf ?_
 refine k_nil (k_seq (awp_false rfl (awp_skip (k_seq (awp_seq (awp_seq (awp_region ?_)))))))
 refine s_fa yF37_6 ?_
 refine s_ld1 yA35 ?_
 refine s_lenT yU35 ?_
 refine s_mv ?_
 refine k_nil (k_seq (awp_block ?_))
 refine awp_mv 1 9301 5060 (by conv => lhs; whnf) (by conv => lhs; whnf) rfl ?_
 refine awp_frame2 [1, 6, 25, 26, 27, 28, 29, 30, 31, 32] [5060] [6, 12031] [5060] (fun a : Nat × (List ByteArray) × Int => a.1) (fun a : Nat × (List ByteArray) × Int => [(1, .ar 5060), (25, .t (.sc (.int .i64 a.2.2)))]) (fun a : Nat × (List ByteArray) × Int => [(5060, .arr (a.2.1.map rS) 9 true)]) (fun a : Nat × (List ByteArray) × Int => a.1 ≤ fu ∧ m_impl_freeOf_d_l1 a.1 x1 a.2.1 a.2.2 = some r ∧ 0 ≤ a.2.2) (fu, x2, 0) ⟨Nat.le_refl _, hF1, by simp⟩ (by rfl) (by rfl) (fun _ => rfl) (hasF_cons (by conv => lhs; whnf) (by rfl) (hasF_cons (by conv => lhs; whnf) (by rfl) hasF_nil)) (hasO_cons (by conv => lhs; whnf) (by rfl) hasO_nil) (fresh_C hC rfl) (by repeat (first | exact freshS_args rfl | refine freshS_upd rfl ?_ | refine freshS_frame rfl ?_)) (by repeat (first | exact freshM_no | exact objs_fresh rfl | refine freshM_upd rfl ?_ | refine freshM_frame rfl ?_)) ?_
 clear hF1
 rintro ⟨fu, g19, g20⟩ ⟨hl21, hF2, hn_g20⟩
 dsimp only at hl21 hF2 hn_g20 ⊢
 obtain _ | fu := fu
 · rw [m_impl_freeOf_d_l1] at hF2; cases hF2
 rw [m_impl_freeOf_d_l1] at hF2
 refine awp_seq (awp_region ?_)
 refine s_lt ?_
 refine k_nil (k_seq (awp_seq ?_))
 refine w_cond hF2 ?_ ?_ <;> intro hc22 hF3
 refine awp_lenT 23 (fun hb23 => ?_)
 refine awp_skip (k_seq (awp_seq (awp_block (awp_seq (awp_region ?_)))))
 obtain ⟨v24, hv24, hF4⟩ := bind_some' hF3
 refine s_ixT Core.row hv24 (Core.row_eq _) yE35 ?_
 refine s_ldN yA37 yS37 ?_
 refine s_alloc yZ37 ?_
 refine s_stW yS37 ?_
 refine k_nil (k_seq (awp_region ?_))
 refine s_ldW yA37 yS37 ?_
 refine s_mv ?_
 obtain ⟨v25, hv25, hF5⟩ := bind_some' hF4
 refine s_call [(9301, 5060), (9200, 12031)] [] _ _ (ih_m_impl_freeOf_d_D fu (by omega) _ _ _ hv25) ?_
 refine s_as ?_
 refine k_nil (k_blk (k_seq (awp_region ?_)))
 refine s_add (winc2 hc22 hb23 hn_g20) ?_
 refine s_mv ?_
 refine k_nil ?_
 exact s_rn (fu, v25, (g20 + 1)) ⟨by first | omega | (dsimp only; omega), hF5, by first | omega | (dsimp only; omega)⟩ [(5060, 12031)]
 refine awp_exit (k_seq_exit (k_rnd_exit2 (k_blk_exit (k_seq (awp_seq (awp_region ?_))))))
 refine s_mv ?_
 refine s_as ?_
 refine k_nil (k_seq ?_)
 refine awp_mv 4 5060 9200 (by conv => lhs; whnf) (by conv => lhs; whnf) rfl ?_
 refine awp_ret (k_fin ?_)
 cases hF3
 exact ends_a _ [] Try.results67
theorem m_impl_freeOf_d_D_all (fuel : Nat) : m_impl_freeOf_d_D_AC fuel := by
 induction fuel using Nat.strongRecOn with
 | _ N ih =>
   cases N with
   | zero => exact (by intro x1 x2 r h; rw [m_impl_freeOf_d] at h; cases h)
   | succ fu => exact m_impl_freeOf_d_D_st fu (fun k hk => (ih k (by omega)))
theorem m_impl_freeOf_d_D_ok (fuel : Nat) : m_impl_freeOf_d_D_AC fuel := (m_impl_freeOf_d_D_all fuel)
def m_impl_freeOf_n_d_D_AC (fuel : Nat) : Prop := ∀ (x1 : Core) (r : (List ByteArray)), m_impl_freeOf_n_d fuel x1 = some r → AC Try.prog 67 [.ag [.t (.sc (.int .i64 x1.kind)), .t (.sc (.int .i64 x1.id)), .t (.sc (.str x1.name)), .t (.sc (.int .i64 x1.n)), .t (.sl (x1.ids.map rI)), .t (.sc (.int .i64 x1.data.kind)), .t (.sc (.str x1.data.name)), .t (.sc (.int .i64 x1.data.n)), .t (.sl (x1.data.scopes.map rI)), .t (.sl (x1.data.kids.map Form.row)), .t (.sl (x1.kids.map Core.row))], .nl] (objs []) (.ar 9200) (objs [(9200, .arr (r.map rS) 9 true)])
theorem m_impl_freeOf_n_d_D_ok (fuel : Nat) : m_impl_freeOf_n_d_D_AC fuel := by
 intro x1 r hF0
 unfold m_impl_freeOf_n_d at hF0
 refine AC_i [.ar 9200] Try.func67 rfl Try.ntmps67 ?_
 intro C hC
 refine awp_seq (awp_region ?_)
 refine s_box ?_
 refine s_as ?_
 refine k_nil (k_seq (awp_seq (awp_seq (awp_region ?_))))
 refine s_fa yF37_0 ?_
 refine s_ld1 yA3 ?_
 refine s_eq ?_
 refine s_mv ?_
 refine w_guard _ 10 hF0 ?_ ?_ <;> intro hc1 hF1
 refine s_mv ?_
 refine s_fa yF37_2 ?_
 refine s_ld1 yA9 ?_
 obtain ⟨v2, hv2, hF2⟩ := bind_some' hF1
 refine s_pure [] (m_slices_Contains_string_ok fuel _ _ _ hv2) ?_
 refine s_not ?_
 refine s_pkt ?_
 refine k_nil (k_seq ?_)
 refine w_cond hF2 ?_ ?_ <;> intro hc3 hF3
 refine awp_region ?_
 refine s_mv ?_
 refine s_fa yF37_2 ?_
 refine s_ld1 yA9 ?_
 refine s_bs rS [x1.name] yP30 yR9 ?_
 obtain ⟨hk4, hF4⟩ := chk_some hF3
 refine s_apN rS (fun _ => rfl) hk4 yP30 ?_
 refine s_as ?_
 refine k_nil (k_seq (awp_seq (awp_seq (awp_region ?_))))
 refine s_fa yF37_6 ?_
 refine s_ld1 yA35 ?_
 refine s_lenT yU35 ?_
 refine s_mv ?_
 refine k_nil (k_seq (awp_block ?_))
 refine awp_mv 1 21 5020 (by conv => lhs; whnf) (by conv => lhs; whnf) rfl ?_
 refine awp_frame2 [1, 6, 25, 26, 27, 28, 29, 30, 31, 32] [5020] [6, 12031] [5020] (fun a : Nat × (List ByteArray) × Int => a.1) (fun a : Nat × (List ByteArray) × Int => [(1, .ar 5020), (25, .t (.sc (.int .i64 a.2.2)))]) (fun a : Nat × (List ByteArray) × Int => [(5020, .arr (a.2.1.map rS) 9 true)]) (fun a : Nat × (List ByteArray) × Int => a.1 ≤ fuel ∧ m_impl_freeOf_d_l1 a.1 x1 a.2.1 a.2.2 = some r ∧ 0 ≤ a.2.2) (fuel, [x1.name], 0) ⟨Nat.le_refl _, hF4, by simp⟩ (by rfl) (by rfl) (fun _ => rfl) (hasF_cons (by conv => lhs; whnf) (by rfl) (hasF_cons (by conv => lhs; whnf) (by rfl) hasF_nil)) (hasO_cons (by conv => lhs; whnf) (by rfl) hasO_nil) (fresh_C hC rfl) (by repeat (first | exact freshS_args rfl | refine freshS_upd rfl ?_ | refine freshS_frame rfl ?_)) (by repeat (first | exact freshM_no | exact objs_fresh rfl | refine freshM_upd rfl ?_ | refine freshM_frame rfl ?_)) ?_
 clear hF4
 rintro ⟨fu, g5, g6⟩ ⟨hl7, hF5, hn_g6⟩
 dsimp only at hl7 hF5 hn_g6 ⊢
 obtain _ | fu := fu
 · rw [m_impl_freeOf_d_l1] at hF5; cases hF5
 rw [m_impl_freeOf_d_l1] at hF5
 refine awp_seq (awp_region ?_)
 refine s_lt ?_
 refine k_nil (k_seq (awp_seq ?_))
 refine w_cond hF5 ?_ ?_ <;> intro hc8 hF6
 refine awp_lenT 23 (fun hb9 => ?_)
 refine awp_skip (k_seq (awp_seq (awp_block (awp_seq (awp_region ?_)))))
 obtain ⟨v10, hv10, hF7⟩ := bind_some' hF6
 refine s_ixT Core.row hv10 (Core.row_eq _) yE35 ?_
 refine s_ldN yA37 yS37 ?_
 refine s_alloc yZ37 ?_
 refine s_stW yS37 ?_
 refine k_nil (k_seq (awp_region ?_))
 refine s_ldW yA37 yS37 ?_
 refine s_mv ?_
 obtain ⟨v11, hv11, hF8⟩ := bind_some' hF7
 refine s_call [(9301, 5020), (9200, 12031)] [] _ _ (m_impl_freeOf_d_D_ok fu _ _ _ hv11) ?_
 refine s_as ?_
 refine k_nil (k_blk (k_seq (awp_region ?_)))
 refine s_add (winc2 hc8 hb9 hn_g6) ?_
 refine s_mv ?_
 refine k_nil ?_
 exact s_rn (fu, v11, (g6 + 1)) ⟨by first | omega | (dsimp only; omega), hF8, by first | omega | (dsimp only; omega)⟩ [(5020, 12031)]
 refine awp_exit (k_seq_exit (k_rnd_exit2 (k_blk_exit (k_seq (awp_seq (awp_region ?_))))))
 refine s_mv ?_
 refine s_as ?_
 refine k_nil (k_seq ?_)
 refine awp_mv 4 5020 9200 (by conv => lhs; whnf) (by conv => lhs; whnf) rfl ?_
 refine awp_ret (k_fin ?_)
 cases hF6
 exact ends_a _ [] Try.results67
 refine awp_skip (k_seq (awp_seq (awp_seq (awp_region ?_))))
 refine s_fa yF37_6 ?_
 refine s_ld1 yA35 ?_
 refine s_lenT yU35 ?_
 refine s_mv ?_
 refine k_nil (k_seq (awp_block ?_))
 refine awp_own 1 5040 9 yI9.choose_spec ?_
 refine awp_frame2 [1, 6, 25, 26, 27, 28, 29, 30, 31, 32] [5040] [6, 12031] [5040] (fun a : Nat × (List ByteArray) × Int => a.1) (fun a : Nat × (List ByteArray) × Int => [(1, .ar 5040), (25, .t (.sc (.int .i64 a.2.2)))]) (fun a : Nat × (List ByteArray) × Int => [(5040, .arr (a.2.1.map rS) 9 true)]) (fun a : Nat × (List ByteArray) × Int => a.1 ≤ fuel ∧ m_impl_freeOf_d_l1 a.1 x1 a.2.1 a.2.2 = some r ∧ 0 ≤ a.2.2) (fuel, ([] : List ByteArray), 0) ⟨Nat.le_refl _, hF3, by simp⟩ (by rfl) (by rfl) (fun _ => rfl) (hasF_cons (by conv => lhs; whnf) (by rfl) (hasF_cons (by conv => lhs; whnf) (by rfl) hasF_nil)) (hasO_cons (by conv => lhs; whnf) (by rfl) hasO_nil) (fresh_C hC rfl) (by repeat (first | exact freshS_args rfl | refine freshS_upd rfl ?_ | refine freshS_frame rfl ?_)) (by repeat (first | exact freshM_no | exact objs_fresh rfl | refine freshM_upd rfl ?_ | refine freshM_frame rfl ?_)) ?_
 clear hF3
 rintro ⟨fu, g12, g13⟩ ⟨hl14, hF4, hn_g13⟩
 dsimp only at hl14 hF4 hn_g13 ⊢
 obtain _ | fu := fu
 · rw [m_impl_freeOf_d_l1] at hF4; cases hF4
 rw [m_impl_freeOf_d_l1] at hF4
 refine awp_seq (awp_region ?_)
 refine s_lt ?_
 refine k_nil (k_seq (awp_seq ?_))
 refine w_cond hF4 ?_ ?_ <;> intro hc15 hF5
 refine awp_lenT 23 (fun hb16 => ?_)
 refine awp_skip (k_seq (awp_seq (awp_block (awp_seq (awp_region ?_)))))
 obtain ⟨v17, hv17, hF6⟩ := bind_some' hF5
 refine s_ixT Core.row hv17 (Core.row_eq _) yE35 ?_
 refine s_ldN yA37 yS37 ?_
 refine s_alloc yZ37 ?_
 refine s_stW yS37 ?_
 refine k_nil (k_seq (awp_region ?_))
 refine s_ldW yA37 yS37 ?_
 refine s_mv ?_
 obtain ⟨v18, hv18, hF7⟩ := bind_some' hF6
 refine s_call [(9301, 5040), (9200, 12031)] [] _ _ (m_impl_freeOf_d_D_ok fu _ _ _ hv18) ?_
 refine s_as ?_
 refine k_nil (k_blk (k_seq (awp_region ?_)))
 refine s_add (winc2 hc15 hb16 hn_g13) ?_
 refine s_mv ?_
 refine k_nil ?_
 exact s_rn (fu, v18, (g13 + 1)) ⟨by first | omega | (dsimp only; omega), hF7, by first | omega | (dsimp only; omega)⟩ [(5040, 12031)]
 refine awp_exit (k_seq_exit (k_rnd_exit2 (k_blk_exit (k_seq (awp_seq (awp_region ?_))))))
 refine s_mv ?_
 refine s_as ?_
 refine k_nil (k_seq ?_)
 refine awp_mv 4 5040 9200 (by conv => lhs; whnf) (by conv => lhs; whnf) rfl ?_
 refine awp_ret (k_fin ?_)
 cases hF5
 exact ends_a _ [] Try.results67
 iterate 5 refine r_no rfl ?_
 refine s_pkf ?_
 refine k_nil (k_seq (awp_false rfl (awp_skip (k_seq (awp_seq (awp_seq (awp_region ?_)))))))
 refine s_fa yF37_6 ?_
 refine s_ld1 yA35 ?_
 refine s_lenT yU35 ?_
 refine s_mv ?_
 refine k_nil (k_seq (awp_block ?_))
 refine awp_own 1 5060 9 yI9.choose_spec ?_
 refine awp_frame2 [1, 6, 25, 26, 27, 28, 29, 30, 31, 32] [5060] [6, 12031] [5060] (fun a : Nat × (List ByteArray) × Int => a.1) (fun a : Nat × (List ByteArray) × Int => [(1, .ar 5060), (25, .t (.sc (.int .i64 a.2.2)))]) (fun a : Nat × (List ByteArray) × Int => [(5060, .arr (a.2.1.map rS) 9 true)]) (fun a : Nat × (List ByteArray) × Int => a.1 ≤ fuel ∧ m_impl_freeOf_d_l1 a.1 x1 a.2.1 a.2.2 = some r ∧ 0 ≤ a.2.2) (fuel, ([] : List ByteArray), 0) ⟨Nat.le_refl _, hF1, by simp⟩ (by rfl) (by rfl) (fun _ => rfl) (hasF_cons (by conv => lhs; whnf) (by rfl) (hasF_cons (by conv => lhs; whnf) (by rfl) hasF_nil)) (hasO_cons (by conv => lhs; whnf) (by rfl) hasO_nil) (fresh_C hC rfl) (by repeat (first | exact freshS_args rfl | refine freshS_upd rfl ?_ | refine freshS_frame rfl ?_)) (by repeat (first | exact freshM_no | exact objs_fresh rfl | refine freshM_upd rfl ?_ | refine freshM_frame rfl ?_)) ?_
 clear hF1
 rintro ⟨fu, g19, g20⟩ ⟨hl21, hF2, hn_g20⟩
 dsimp only at hl21 hF2 hn_g20 ⊢
 obtain _ | fu := fu
 · rw [m_impl_freeOf_d_l1] at hF2; cases hF2
 rw [m_impl_freeOf_d_l1] at hF2
 refine awp_seq (awp_region ?_)
 refine s_lt ?_
 refine k_nil (k_seq (awp_seq ?_))
 refine w_cond hF2 ?_ ?_ <;> intro hc22 hF3
 refine awp_lenT 23 (fun hb23 => ?_)
 refine awp_skip (k_seq (awp_seq (awp_block (awp_seq (awp_region ?_)))))
 obtain ⟨v24, hv24, hF4⟩ := bind_some' hF3
 refine s_ixT Core.row hv24 (Core.row_eq _) yE35 ?_
 refine s_ldN yA37 yS37 ?_
 refine s_alloc yZ37 ?_
 refine s_stW yS37 ?_
 refine k_nil (k_seq (awp_region ?_))
 refine s_ldW yA37 yS37 ?_
 refine s_mv ?_
 obtain ⟨v25, hv25, hF5⟩ := bind_some' hF4
 refine s_call [(9301, 5060), (9200, 12031)] [] _ _ (m_impl_freeOf_d_D_ok fu _ _ _ hv25) ?_
 refine s_as ?_
 refine k_nil (k_blk (k_seq (awp_region ?_)))
 refine s_add (winc2 hc22 hb23 hn_g20) ?_
 refine s_mv ?_
 refine k_nil ?_
 exact s_rn (fu, v25, (g20 + 1)) ⟨by first | omega | (dsimp only; omega), hF5, by first | omega | (dsimp only; omega)⟩ [(5060, 12031)]
 refine awp_exit (k_seq_exit (k_rnd_exit2 (k_blk_exit (k_seq (awp_seq (awp_region ?_))))))
 refine s_mv ?_
 refine s_as ?_
 refine k_nil (k_seq ?_)
 refine awp_mv 4 5060 9200 (by conv => lhs; whnf) (by conv => lhs; whnf) rfl ?_
 refine awp_ret (k_fin ?_)
 cases hF3
 exact ends_a _ [] Try.results67
end Go.Abs
