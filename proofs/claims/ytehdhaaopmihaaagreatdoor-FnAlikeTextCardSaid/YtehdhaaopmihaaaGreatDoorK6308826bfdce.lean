/- A part of the proof: what the functions that the law calls answer, as pure values. -/
import Derived.Test.YtehdhaaopmihaaaGreatDoorK0fde71595f57
import Derived.Test.YtehdhaaopmihaaaGreatDoorK2360b66b3b0e
import Derived.Test.YtehdhaaopmihaaaGreatDoorK6e24ef895a8f
import Derived.Test.YtehdhaaopmihaaaGreatDoorK71dc5ada3beb
import Derived.Test.YtehdhaaopmihaaaGreatDoorK98906b43c573
import Derived.Test.YtehdhaaopmihaaaGreatDoorKafd1fd9ff401
import Derived.Test.YtehdhaaopmihaaaGreatDoorKd19899f98c41
set_option linter.unusedSimpArgs false
set_option linter.unusedVariables false
set_option maxRecDepth 100000
set_option maxHeartbeats 4000000
namespace Go.Abs
open Go.Proofs
theorem m_spec_l6Alike_all (fuel : Nat) : m_spec_l6Alike_AC fuel := by
 induction fuel using Nat.strongRecOn with
 | _ N ih =>
   cases N with
   | zero => exact (by intro x1 x2 x3 x4 r h; rw [m_spec_l6Alike] at h; cases h)
   | succ fu => exact m_spec_l6Alike_st fu (fun k hk => (ih k (by omega)))
theorem m_spec_l6Alike_ok (fuel : Nat) : m_spec_l6Alike_AC fuel := (m_spec_l6Alike_all fuel)
def m_spec_CoreAlike_AC (fuel : Nat) : Prop := ∀ (x1 : Core) (x2 : Core) (r : Bool), m_spec_CoreAlike fuel x1 x2 = some r → AC Tryz.prog 21 [.ag [.t (.sc (.int .i64 x1.kind)), .t (.sc (.int .i64 x1.id)), .t (.sc (.str x1.name)), .t (.sc (.int .i64 x1.n)), .t (.sl (x1.ids.map rI)), .t (.sc (.int .i64 x1.data.kind)), .t (.sc (.str x1.data.name)), .t (.sc (.int .i64 x1.data.n)), .t (.sl (x1.data.scopes.map rI)), .t (.sl (x1.data.kids.map Form.row)), .t (.sl (x1.kids.map Core.row))], .ag [.t (.sc (.int .i64 x2.kind)), .t (.sc (.int .i64 x2.id)), .t (.sc (.str x2.name)), .t (.sc (.int .i64 x2.n)), .t (.sl (x2.ids.map rI)), .t (.sc (.int .i64 x2.data.kind)), .t (.sc (.str x2.data.name)), .t (.sc (.int .i64 x2.data.n)), .t (.sl (x2.data.scopes.map rI)), .t (.sl (x2.data.kids.map Form.row)), .t (.sl (x2.kids.map Core.row))]] noOb (.t (.sc (.bool r))) noOb
theorem m_spec_CoreAlike_ok (fuel : Nat) : m_spec_CoreAlike_AC fuel := by
 intro x1 x2 r hF0
 unfold m_spec_CoreAlike at hF0
 refine AC_i [.t (.sc (.bool r))] Tryz.func21 rfl Tryz.ntmps21 ?_
 intro C hC
 refine awp_seq (awp_region ?_)
 refine s_box ?_
 refine s_box ?_
 refine s_as ?_
 refine k_nil (k_seq (awp_seq (awp_region ?_)))
 refine s_ldW yA36 yS36 ?_
 obtain ⟨v1, hv1, hF1⟩ := bind_some' hF0
 refine s_pure [] (m_spec_CoreValid_ok fuel _ _ hv1) ?_
 refine s_mv ?_
 refine w_guard _ 7 hF1 ?_ ?_ <;> intro hc2 hF2
 refine s_ldW yA36 yS36 ?_
 obtain ⟨v3, hv3, hF3⟩ := bind_some' hF2
 refine s_pure [] (m_spec_CoreValid_ok fuel _ _ hv3) ?_
 refine s_pkt ?_
 refine s_mv ?_
 refine w_guard _ 11 hF3 ?_ ?_ <;> intro hc4 hF4
 refine s_ldW yA36 yS36 ?_
 refine s_ldW yA36 yS36 ?_
 refine s_bs rI ([] : List Int) yP22 yR3 ?_
 refine s_bs rI ([] : List Int) yP22 yR3 ?_
 obtain ⟨v5, hv5, hF5⟩ := bind_some' hF4
 refine s_pure [14, 15] (m_spec_l6Alike_ok fuel _ _ _ _ _ hv5) ?_
 refine s_pkt ?_
 refine s_as ?_
 refine k_nil (k_seq (awp_ret (k_fin ?_)))
 cases hF5
 exact ends_a [] [] Tryz.results21
 iterate 5 refine r_no rfl ?_
 refine s_pkf ?_
 refine s_as ?_
 refine k_nil (k_seq (awp_ret (k_fin ?_)))
 cases hF4
 exact ends_a [] [] Tryz.results21
 refine r_no rfl (r_no rfl ?_)
 refine s_pkf ?_
 refine s_mv ?_
 iterate 5 refine r_no rfl ?_
 refine s_pkf ?_
 refine s_as ?_
 refine k_nil (k_seq (awp_ret (k_fin ?_)))
 cases hF2
 exact ends_a [] [] Tryz.results21
def m_impl_copyForm_AC (fuel : Nat) : Prop := ∀ (x1 : Form) (r : Form), m_impl_copyForm fuel x1 = some r → AC Tryz.prog 93 [.ag [.t (.sc (.int .i64 x1.kind)), .t (.sc (.str x1.name)), .t (.sc (.int .i64 x1.n)), .t (.sl (x1.scopes.map rI)), .t (.sl (x1.kids.map Form.row))]] noOb (.ag [.t (.sc (.int .i64 r.kind)), .t (.sc (.str r.name)), .t (.sc (.int .i64 r.n)), .t (.sl (r.scopes.map rI)), .t (.sl (r.kids.map Form.row))]) noOb
theorem m_impl_copyForm_st (fu : Nat) (ih_m_impl_copyForm : ∀ k, k ≤ fu → m_impl_copyForm_AC k) : m_impl_copyForm_AC (fu + 1) := by
 intro x1 r hF0
 rw [m_impl_copyForm] at hF0
 refine AC_i [.ag [.t (.sc (.int .i64 r.kind)), .t (.sc (.str r.name)), .t (.sc (.int .i64 r.n)), .t (.sl (r.scopes.map rI)), .t (.sl (r.kids.map Form.row))]] Tryz.func93 rfl Tryz.ntmps93 ?_
 intro C hC
 refine awp_seq (awp_region ?_)
 refine s_box ?_
 refine s_alloc yZ33 ?_
 refine k_nil (k_seq (awp_seq ?_))
 refine awp_draw yMix (by kernel_rfl) ?_
 refine s_fa yF33_0 ?_
 refine s_ld1 yA3 ?_
 refine s_fa yF33_1 ?_
 refine s_ld1 yA9 ?_
 refine s_fa yF33_2 ?_
 refine s_ld1 yA3 ?_
 refine s_fa yF33_3 ?_
 refine s_ld1 yA22 ?_
 obtain ⟨v1, hv1, hF1⟩ := bind_some' hF0
 refine s_call [(9200, 2014)] [] _ _ (m_slices_Clone_int_ok fu _ _ hv1) ?_
 refine s_bld yZ33 yL33 ?_
 refine s_alloc yZ33 ?_
 refine s_stW yS33 ?_
 refine k_nilD (by kernel_rfl) ?_
 refine k_seq (awp_seq (awp_seq (awp_region ?_)))
 refine s_fa yF33_4 ?_
 refine s_ld1 yA31 ?_
 refine s_lenT yU31 ?_
 refine s_mv ?_
 refine k_nil (k_seq (awp_block ?_))
 refine awp_ownB 3 5020 33 [.t (.sc (.int .i64 x1.kind)), .t (.sc (.str x1.name)), .t (.sc (.int .i64 x1.n)), .ar 2014, .ar 5020] yI33.choose_spec ?_
 refine awp_frame2 [5, 19, 20, 21, 22, 23, 24, 25, 26, 27, 28, 29, 30] [3, 5020] [5, 27, 28] [5020] (fun a : Nat × Int × (List Form) => a.1) (fun a : Nat × Int × (List Form) => [(19, .t (.sc (.int .i64 a.2.1)))]) (fun a : Nat × Int × (List Form) => [(3, .box [.t (.sc (.int .i64 x1.kind)), .t (.sc (.str x1.name)), .t (.sc (.int .i64 x1.n)), .ar 2014, .ar 5020]), (5020, .arr (a.2.2.map Form.row) 33 true)]) (fun a : Nat × Int × (List Form) => a.1 ≤ fu ∧ m_impl_copyForm_l1 a.1 x1 v1 a.2.1 a.2.2 = some r ∧ 0 ≤ a.2.1) (fu, 0, ([] : List Form)) ⟨Nat.le_refl _, hF1, by simp⟩ (by rfl) (by rfl) (fun _ => rfl) (hasF_cons (by conv => lhs; whnf) (by rfl) hasF_nil) (hasO_cons (by conv => lhs; whnf) (by rfl) (hasO_cons (by conv => lhs; whnf) (by rfl) hasO_nil)) (fresh_C hC rfl) (by repeat (first | exact freshS_args rfl | refine freshS_upd rfl ?_ | refine freshS_frame rfl ?_)) (by repeat (first | exact freshM_no | exact objs_fresh rfl | refine freshM_upd rfl ?_ | refine freshM_frame rfl ?_)) ?_
 clear hF1
 rintro ⟨fu, g2, g3⟩ ⟨hl4, hF2, hn_g2⟩
 dsimp only at hl4 hF2 hn_g2 ⊢
 obtain _ | fu := fu
 · rw [m_impl_copyForm_l1] at hF2; cases hF2
 rw [m_impl_copyForm_l1] at hF2
 refine awp_seq (awp_region ?_)
 refine s_lt ?_
 refine k_nil (k_seq (awp_seq ?_))
 refine w_cond hF2 ?_ ?_ <;> intro hc5 hF3
 refine awp_lenT 17 (fun hb6 => ?_)
 refine awp_skip (k_seq (awp_seq (awp_block (awp_seq (awp_region ?_)))))
 obtain ⟨v7, hv7, hF4⟩ := bind_some' hF3
 refine s_ixT Form.row hv7 (Form.row_eq _) yE31 ?_
 refine s_ldN yA33 yS33 ?_
 refine s_alloc yZ33 ?_
 refine s_stW yS33 ?_
 refine k_nil (k_seq ?_)
 refine awp_draw yMix (by kernel_rfl) ?_
 refine s_fa yF33_4 ?_
 refine s_ld1 yA31 ?_
 refine s_ldW yA33 yS33 ?_
 obtain ⟨v8, hv8, hF5⟩ := bind_some' hF4
 refine s_pure [] (ih_m_impl_copyForm fu (by omega) _ _ hv8) ?_
 refine s_bs Form.row [v8] yP31 yR33 ?_
 obtain ⟨hk9, hF6⟩ := chk_some hF5
 refine s_apT Form.row (fun y => Form.row_len y) hk9 yP31 ?_
 refine s_fa yF33_4 ?_
 refine s_stP yS31 ?_
 refine k_nilD (by kernel_rfl) ?_
 refine k_blk (k_seq (awp_region ?_))
 refine s_add (winc2 hc5 hb6 hn_g2) ?_
 refine s_mv ?_
 refine k_nil ?_
 exact s_rn (fu, (g2 + 1), (g3 ++ [v8])) ⟨by first | omega | (dsimp only; omega), hF6, by first | omega | (dsimp only; omega)⟩ [(5020, 28)]
 refine awp_exit (k_seq_exit (k_rnd_exit2 (k_blk_exit (k_seq (awp_seq (awp_region ?_))))))
 refine s_ldW yA33 yS33 ?_
 refine s_stW yS33 ?_
 refine k_nil (k_seq (awp_ret (k_fin ?_)))
 cases hF3
 exact ends_gen [] [2014, 5020] (by rw [Tryz.results93]; exact (res_agg (by conv => lhs; whnf) (by conv => lhs; whnf) yA33 yS33 rfl res_nil))
theorem m_impl_copyForm_all (fuel : Nat) : m_impl_copyForm_AC fuel := by
 induction fuel using Nat.strongRecOn with
 | _ N ih =>
   cases N with
   | zero => exact (by intro x1 r h; rw [m_impl_copyForm] at h; cases h)
   | succ fu => exact m_impl_copyForm_st fu (fun k hk => (ih k (by omega)))
theorem m_impl_copyForm_ok (fuel : Nat) : m_impl_copyForm_AC fuel := (m_impl_copyForm_all fuel)
def m_impl_renumber_AC (fuel : Nat) : Prop := ∀ (x1 : Core) (x2 : (Int → Option Int)) (o1 : Int) (r : (Core × Int)), m_impl_renumber fuel x1 x2 o1 = some r → AC Tryz.prog 55 [.ag [.t (.sc (.int .i64 x1.kind)), .t (.sc (.int .i64 x1.id)), .t (.sc (.str x1.name)), .t (.sc (.int .i64 x1.n)), .t (.sl (x1.ids.map rI)), .t (.sc (.int .i64 x1.data.kind)), .t (.sc (.str x1.data.name)), .t (.sc (.int .i64 x1.data.n)), .t (.sl (x1.data.scopes.map rI)), .t (.sl (x1.data.kids.map Form.row)), .t (.sl (x1.kids.map Core.row))], .ar 9301, .rf 9000 0] (objs [(9301, .mp x2), (9000, .box [.t (.sc (.int .i64 o1))])]) (.ag [.t (.sc (.int .i64 r.1.kind)), .t (.sc (.int .i64 r.1.id)), .t (.sc (.str r.1.name)), .t (.sc (.int .i64 r.1.n)), .t (.sl (r.1.ids.map rI)), .t (.sc (.int .i64 r.1.data.kind)), .t (.sc (.str r.1.data.name)), .t (.sc (.int .i64 r.1.data.n)), .t (.sl (r.1.data.scopes.map rI)), .t (.sl (r.1.data.kids.map Form.row)), .t (.sl (r.1.kids.map Core.row))]) (objs [(9301, .mp x2), (9000, .box [.t (.sc (.int .i64 r.2))])])
theorem m_impl_renumber_st (fu : Nat) (ih_m_impl_renumber : ∀ k, k ≤ fu → m_impl_renumber_AC k) : m_impl_renumber_AC (fu + 1) := by
 intro x1 x2 o1 r hF0
 rw [m_impl_renumber] at hF0
 refine AC_i [.ag [.t (.sc (.int .i64 r.1.kind)), .t (.sc (.int .i64 r.1.id)), .t (.sc (.str r.1.name)), .t (.sc (.int .i64 r.1.n)), .t (.sl (r.1.ids.map rI)), .t (.sc (.int .i64 r.1.data.kind)), .t (.sc (.str r.1.data.name)), .t (.sc (.int .i64 r.1.data.n)), .t (.sl (r.1.data.scopes.map rI)), .t (.sl (r.1.data.kids.map Form.row)), .t (.sl (r.1.kids.map Core.row))]] Tryz.func55 rfl Tryz.ntmps55 ?_
 intro C hC
 refine awp_seq (awp_region ?_)
 refine s_box ?_
 refine s_alloc yZ36 ?_
 refine k_nil (k_seq (awp_seq ?_))
 refine awp_draw yMix (by kernel_rfl) ?_
 refine s_fa yF36_0 ?_
 refine s_ld1 yA3 ?_
 refine s_fa yF36_1 ?_
 refine s_ld1 yA3 ?_
 refine s_fa yF36_2 ?_
 refine s_ld1 yA9 ?_
 refine s_fa yF36_3 ?_
 refine s_ld1 yA3 ?_
 refine s_fa yF36_5 ?_
 refine s_ldN yA33 yS33 ?_
 obtain ⟨v1, hv1, hF1⟩ := bind_some' hF0
 refine s_pure [] (m_impl_copyForm_ok fu _ _ hv1) ?_
 refine s_bld yZ36 yL36 ?_
 refine s_alloc yZ36 ?_
 refine s_stW yS36 ?_
 refine k_nilD (by kernel_rfl) ?_
 refine k_seq ?_
 refine awp_jn (α := Nat × Int) [27, 28, 29, 30, 31, 32, 33, 34] [7] [] (fun a => []) (fun a => [(7, .box [.t (.sc (.int .i64 x1.kind)), .t (.sc (.int .i64 a.2)), .t (.sc (.str x1.name)), .t (.sc (.int .i64 x1.n)), .nl, .t (.sc (.int .i64 v1.kind)), .t (.sc (.str v1.name)), .t (.sc (.int .i64 v1.n)), .t (.sl (v1.scopes.map rI)), .t (.sl (v1.kids.map Form.row)), .nl])]) (fun a => a.1 ≤ fu ∧ m_impl_renumber_j1 a.1 x1 x2 o1 v1 a.2 = some r) ?_ ?_
 refine awp_seq (awp_region ?_)
 refine s_fa yF36_0 ?_
 refine s_ld1 yA3 ?_
 refine s_eq ?_
 refine k_nil (k_seq ?_)
 refine w_cond hF1 ?_ ?_ <;> intro hc2 hF2
 refine awp_region ?_
 refine s_mv ?_
 refine s_fa yF36_1 ?_
 refine s_ld1 yA3 ?_
 refine s_look yM107 ?_
 refine s_fa yF36_1 ?_
 refine s_stP yS3 ?_
 refine k_nil ?_
 exact s_jn (fu, (mapGet x2 x1.id)) ⟨by first | omega | (dsimp only; omega), hF2⟩
 refine awp_skip ?_
 exact s_jn (fu, x1.id) ⟨by first | omega | (dsimp only; omega), hF2⟩
 clear hF1
 rintro ⟨fu, g3⟩ ⟨hl4, hF2⟩
 dsimp only at hl4 hF2 ⊢
 obtain _ | fu := fu
 · rw [m_impl_renumber_j1] at hF2; cases hF2
 rw [m_impl_renumber_j1] at hF2
 refine awp_seq (awp_region ?_)
 refine s_mkm ?_
 refine s_as ?_
 refine k_nil (k_seq (awp_seq (awp_seq ?_)))
 refine awp_mpx 9301 (by conv => lhs; whnf) (fun bmhE5 eshE5 clockhE5 hE5 => ?_)
 refine awp_region ?_
 refine s_mv ?_
 refine s_range yM107 ?_
 refine k_nil (k_seq (awp_block ?_))
 refine awp_fr (β := Array Nat × (Int → Option Int)) [9, 10, 38, 39, 40, 41, 42, 43, 44, 45] [35, 37] [] (fun a => []) (fun a => [(35, .mp a.2.2), (37, .it (some bmhE5) clockhE5 a.2.1 clockhE5)]) (fun a => a.1 = (leftL eshE5 a.2.1).length + 1 ∧ WalkI eshE5 a.2.1 x2 a.2.2) ((leftL eshE5 #[]).length + 1, #[], map0) ⟨rfl, walk_start⟩ ?_
 rintro ⟨_, seen, g⟩ ⟨hN, hW⟩
 dsimp only at hN hW ⊢
 subst hN
 refine awp_seq ?_
 refine awp_nextS 9301 hE5 (fun x0 hx0 => ?_) (fun hl => ?_)
 obtain ⟨hm0, k0, v0, hk0, hv0, hf0⟩ := walk_at hE5 hx0
 have hlt0 := walk_less hx0
 refine k_seq (awp_seq (awp_true rfl (awp_skip (k_seq (awp_block (awp_seq (awp_region ?_)))))))
 refine s_entry hE5 hm0 hk0 hv0 (q := 9301) ?_
 refine s_ext ?_
 refine s_ext ?_
 refine s_as ?_
 refine s_as ?_
 refine k_nil (k_seq (awp_region ?_))
 iterate 3 refine s_mv ?_
 refine s_mupd yM107 ?_
 refine k_nil (k_blk ?_)
 exact s_rn ((leftL eshE5 (seen.push x0.born)).length + 1, seen.push x0.born, mapSet g k0 v0) ⟨rfl, walk_step hE5 hx0 hk0 hf0 hW⟩
 have hfg := walk_end hE5 hl hW
 subst hfg
 refine k_seq (awp_seq (awp_false rfl ?_))
 refine awp_exit (k_seq_exit (k_rnd_exit2 (k_blk_exit ?_)))
 refine k_seq ?_
 refine awp_mpo 9301 hE5 (by conv => lhs; whnf) ?_
 refine awp_kill 37 rfl ?_
 refine awp_jn (α := Nat × Int × (Int → Option Int) × (List Int)) [12, 46, 47, 48, 49, 50, 51, 52, 53, 54, 55, 56, 57, 58, 59, 60, 61, 62, 63, 64, 65, 66, 67, 68, 69, 70, 71] [7, 35, 5060, 9000] [] (fun a => []) (fun a => [(7, .box [.t (.sc (.int .i64 x1.kind)), .t (.sc (.int .i64 g3)), .t (.sc (.str x1.name)), .t (.sc (.int .i64 x1.n)), .ar 5060, .t (.sc (.int .i64 v1.kind)), .t (.sc (.str v1.name)), .t (.sc (.int .i64 v1.n)), .t (.sl (v1.scopes.map rI)), .t (.sl (v1.kids.map Form.row)), .nl]), (35, .mp a.2.2.1), (5060, .arr (a.2.2.2.map rI) 3 true), (9000, .box [.t (.sc (.int .i64 a.2.1))])]) (fun a => a.1 ≤ fu ∧ m_impl_renumber_j2 a.1 x1 v1 g3 a.2.1 a.2.2.1 a.2.2.2 = some r) ?_ ?_
 refine awp_seq (awp_region ?_)
 refine s_fa yF36_4 ?_
 refine s_ld1 yA22 ?_
 refine s_lenT yU22 ?_
 refine s_mv ?_
 refine k_nil (k_seq (awp_block ?_))
 refine awp_ownB 7 5060 3 [.t (.sc (.int .i64 x1.kind)), .t (.sc (.int .i64 g3)), .t (.sc (.str x1.name)), .t (.sc (.int .i64 x1.n)), .ar 5060, .t (.sc (.int .i64 v1.kind)), .t (.sc (.str v1.name)), .t (.sc (.int .i64 v1.n)), .t (.sl (v1.scopes.map rI)), .t (.sl (v1.kids.map Form.row)), .nl] yI3.choose_spec ?_
 refine awp_frame2 [12, 49, 50, 51, 52, 53, 54, 55, 56, 57, 58, 59, 60, 61, 62, 63, 64, 65, 66, 67, 68, 69, 70, 71] [7, 35, 5060, 9000] [68, 69] [5060] (fun a : Nat × Int × Int × (List Int) × (Int → Option Int) => a.1) (fun a : Nat × Int × Int × (List Int) × (Int → Option Int) => [(49, .t (.sc (.int .i64 a.2.1)))]) (fun a : Nat × Int × Int × (List Int) × (Int → Option Int) => [(7, .box [.t (.sc (.int .i64 x1.kind)), .t (.sc (.int .i64 g3)), .t (.sc (.str x1.name)), .t (.sc (.int .i64 x1.n)), .ar 5060, .t (.sc (.int .i64 v1.kind)), .t (.sc (.str v1.name)), .t (.sc (.int .i64 v1.n)), .t (.sl (v1.scopes.map rI)), .t (.sl (v1.kids.map Form.row)), .nl]), (35, .mp a.2.2.2.2), (5060, .arr (a.2.2.2.1.map rI) 3 true), (9000, .box [.t (.sc (.int .i64 a.2.2.1))])]) (fun a : Nat × Int × Int × (List Int) × (Int → Option Int) => a.1 ≤ fu ∧ m_impl_renumber_l3 a.1 x1 v1 g3 a.2.1 a.2.2.1 a.2.2.2.1 a.2.2.2.2 = some r ∧ 0 ≤ a.2.1) (fu, 0, o1, ([] : List Int), x2) ⟨Nat.le_refl _, hF2, by simp⟩ (by rfl) (by rfl) (fun _ => rfl) (hasF_cons (by conv => lhs; whnf) (by rfl) hasF_nil) (hasO_cons (by conv => lhs; whnf) (by rfl) (hasO_cons (by conv => lhs; whnf) (by rfl) (hasO_cons (by conv => lhs; whnf) (by rfl) (hasO_cons (by conv => lhs; whnf) (by rfl) hasO_nil)))) (fresh_C hC rfl) (by repeat (first | exact freshS_args rfl | refine freshS_upd rfl ?_ | refine freshS_frame rfl ?_)) (by repeat (first | exact freshM_no | exact objs_fresh rfl | refine freshM_upd rfl ?_ | refine freshM_frame rfl ?_)) ?_
 clear hF2
 rintro ⟨fu, g6, g7, g8, g9⟩ ⟨hl10, hF3, hn_g6⟩
 dsimp only at hl10 hF3 hn_g6 ⊢
 obtain _ | fu := fu
 · rw [m_impl_renumber_l3] at hF3; cases hF3
 rw [m_impl_renumber_l3] at hF3
 refine awp_seq (awp_region ?_)
 refine s_lt ?_
 refine k_nil (k_seq (awp_seq ?_))
 refine w_cond hF3 ?_ ?_ <;> intro hc11 hF4
 refine awp_lenT 47 (fun hb12 => ?_)
 refine awp_skip (k_seq (awp_seq (awp_block (awp_seq (awp_region ?_)))))
 obtain ⟨v13, hv13, hF5⟩ := bind_some' hF4
 refine s_ixT rI hv13 rfl yE22 ?_
 refine s_ld1 yA3 ?_
 refine s_as ?_
 refine k_nil (k_seq (awp_seq (awp_region ?_)))
 refine s_mv ?_
 refine s_nc ?_
 refine s_ld1 yA3 ?_
 refine s_add rfl ?_
 refine s_nc ?_
 refine s_stW yS3 ?_
 refine k_nil (k_seq (awp_seq (awp_region ?_)))
 iterate 3 refine s_mv ?_
 refine s_nc ?_
 refine s_ld1 yA3 ?_
 refine s_mupd yM107 ?_
 refine k_nil (k_seq ?_)
 refine awp_draw yMix (by kernel_rfl) ?_
 refine s_fa yF36_4 ?_
 refine s_ld1 yA22 ?_
 refine s_mv0 ?_
 refine s_nc ?_
 refine s_ld1 yA3 ?_
 refine s_bs rI [(w64 (g7 + 1))] yP22 yR3 ?_
 obtain ⟨hk14, hF6⟩ := chk_some hF5
 refine s_apT rI (fun _ => rfl) hk14 yP22 ?_
 refine s_fa yF36_4 ?_
 refine s_stP yS22 ?_
 refine k_nilD (by kernel_rfl) ?_
 refine k_blk (k_seq (awp_region ?_))
 refine s_add (winc2 hc11 hb12 hn_g6) ?_
 refine s_mv ?_
 refine k_nil ?_
 exact s_rn (fu, (g6 + 1), (w64 (g7 + 1)), (g8 ++ [(w64 (g7 + 1))]), (mapSet g9 v13 (w64 (g7 + 1)))) ⟨by first | omega | (dsimp only; omega), hF6, by first | omega | (dsimp only; omega)⟩ [(5060, 69)]
 refine awp_exit (k_seq_exit (k_rnd_exit2 (k_blk_exit ?_)))
 exact s_jn (fu, g7, g9, g8) ⟨by first | omega | (dsimp only; omega), hF4⟩
 clear hF2
 rintro ⟨fu, g15, g16, g17⟩ ⟨hl18, hF3⟩
 dsimp only at hl18 hF3 ⊢
 obtain _ | fu := fu
 · rw [m_impl_renumber_j2] at hF3; cases hF3
 rw [m_impl_renumber_j2] at hF3
 refine awp_seq (awp_seq (awp_region ?_))
 refine s_fa yF36_6 ?_
 refine s_ld1 yA34 ?_
 refine s_lenT yU34 ?_
 refine s_mv ?_
 refine k_nil (k_seq (awp_block ?_))
 refine awp_ownB 7 5080 36 [.t (.sc (.int .i64 x1.kind)), .t (.sc (.int .i64 g3)), .t (.sc (.str x1.name)), .t (.sc (.int .i64 x1.n)), .ar 5060, .t (.sc (.int .i64 v1.kind)), .t (.sc (.str v1.name)), .t (.sc (.int .i64 v1.n)), .t (.sl (v1.scopes.map rI)), .t (.sl (v1.kids.map Form.row)), .ar 5080] yI36.choose_spec ?_
 refine awp_frame2 [14, 75, 76, 77, 78, 79, 80, 81, 82, 83, 84, 85, 86, 87, 88] [7, 5080, 9000] [14, 85, 86] [5080] (fun a : Nat × Int × Int × (List Core) => a.1) (fun a : Nat × Int × Int × (List Core) => [(75, .t (.sc (.int .i64 a.2.1)))]) (fun a : Nat × Int × Int × (List Core) => [(7, .box [.t (.sc (.int .i64 x1.kind)), .t (.sc (.int .i64 g3)), .t (.sc (.str x1.name)), .t (.sc (.int .i64 x1.n)), .ar 5060, .t (.sc (.int .i64 v1.kind)), .t (.sc (.str v1.name)), .t (.sc (.int .i64 v1.n)), .t (.sl (v1.scopes.map rI)), .t (.sl (v1.kids.map Form.row)), .ar 5080]), (5080, .arr (a.2.2.2.map Core.row) 36 true), (9000, .box [.t (.sc (.int .i64 a.2.2.1))])]) (fun a : Nat × Int × Int × (List Core) => a.1 ≤ fu ∧ m_impl_renumber_l4 a.1 x1 v1 g3 g16 g17 a.2.1 a.2.2.1 a.2.2.2 = some r ∧ 0 ≤ a.2.1) (fu, 0, g15, ([] : List Core)) ⟨Nat.le_refl _, hF3, by simp⟩ (by rfl) (by rfl) (fun _ => rfl) (hasF_cons (by conv => lhs; whnf) (by rfl) hasF_nil) (hasO_cons (by conv => lhs; whnf) (by rfl) (hasO_cons (by conv => lhs; whnf) (by rfl) (hasO_cons (by conv => lhs; whnf) (by rfl) hasO_nil))) (fresh_C hC rfl) (by repeat (first | exact freshS_args rfl | refine freshS_upd rfl ?_ | refine freshS_frame rfl ?_)) (by repeat (first | exact freshM_no | exact objs_fresh rfl | refine freshM_upd rfl ?_ | refine freshM_frame rfl ?_)) ?_
 clear hF3
 rintro ⟨fu, g19, g20, g21⟩ ⟨hl22, hF4, hn_g19⟩
 dsimp only at hl22 hF4 hn_g19 ⊢
 obtain _ | fu := fu
 · rw [m_impl_renumber_l4] at hF4; cases hF4
 rw [m_impl_renumber_l4] at hF4
 refine awp_seq (awp_region ?_)
 refine s_lt ?_
 refine k_nil (k_seq (awp_seq ?_))
 refine w_cond hF4 ?_ ?_ <;> intro hc23 hF5
 refine awp_lenT 73 (fun hb24 => ?_)
 refine awp_skip (k_seq (awp_seq (awp_block (awp_seq (awp_region ?_)))))
 obtain ⟨v25, hv25, hF6⟩ := bind_some' hF5
 refine s_ixT Core.row hv25 (Core.row_eq _) yE34 ?_
 refine s_ldN yA36 yS36 ?_
 refine s_alloc yZ36 ?_
 refine s_stW yS36 ?_
 refine k_nil (k_seq ?_)
 refine awp_draw yMix (by kernel_rfl) ?_
 refine s_fa yF36_6 ?_
 refine s_ld1 yA34 ?_
 refine s_ldW yA36 yS36 ?_
 refine s_mv0 ?_
 refine s_mv0 ?_
 obtain ⟨v26, hv26, hF7⟩ := bind_some' hF6
 refine s_call [(9301, 35), (9000, 9000)] [] _ _ (ih_m_impl_renumber fu (by omega) _ _ _ _ hv26) ?_
 refine s_bs Core.row [v26.1] yP34 yR36 ?_
 obtain ⟨hk27, hF8⟩ := chk_some hF7
 refine s_apT Core.row (fun y => Core.row_len y) hk27 yP34 ?_
 refine s_fa yF36_6 ?_
 refine s_stP yS34 ?_
 refine k_nilD (by kernel_rfl) ?_
 refine k_blk (k_seq (awp_region ?_))
 refine s_add (winc2 hc23 hb24 hn_g19) ?_
 refine s_mv ?_
 refine k_nil ?_
 exact s_rn (fu, (g19 + 1), v26.2, (g21 ++ [v26.1])) ⟨by first | omega | (dsimp only; omega), hF8, by first | omega | (dsimp only; omega)⟩ [(5080, 86)]
 refine awp_exit (k_seq_exit (k_rnd_exit2 (k_blk_exit (k_seq (awp_seq (awp_region ?_))))))
 refine s_ldW yA36 yS36 ?_
 refine s_stW yS36 ?_
 refine k_nil (k_seq (awp_ret (k_fin ?_)))
 cases hF5
 exact ends_gen _ [5060, 5080] (by rw [Tryz.results55]; exact (res_agg (by conv => lhs; whnf) (by conv => lhs; whnf) yA36 yS36 rfl res_nil))
theorem m_impl_renumber_all (fuel : Nat) : m_impl_renumber_AC fuel := by
 induction fuel using Nat.strongRecOn with
 | _ N ih =>
   cases N with
   | zero => exact (by intro x1 x2 o1 r h; rw [m_impl_renumber] at h; cases h)
   | succ fu => exact m_impl_renumber_st fu (fun k hk => (ih k (by omega)))
theorem m_impl_renumber_ok (fuel : Nat) : m_impl_renumber_AC fuel := (m_impl_renumber_all fuel)
def m_impl_renumber_n_AC (fuel : Nat) : Prop := ∀ (x1 : Core) (o1 : Int) (r : (Core × Int)), m_impl_renumber_n fuel x1 o1 = some r → AC Tryz.prog 55 [.ag [.t (.sc (.int .i64 x1.kind)), .t (.sc (.int .i64 x1.id)), .t (.sc (.str x1.name)), .t (.sc (.int .i64 x1.n)), .t (.sl (x1.ids.map rI)), .t (.sc (.int .i64 x1.data.kind)), .t (.sc (.str x1.data.name)), .t (.sc (.int .i64 x1.data.n)), .t (.sl (x1.data.scopes.map rI)), .t (.sl (x1.data.kids.map Form.row)), .t (.sl (x1.kids.map Core.row))], .t (.sc .nim), .rf 9000 0] (objs [(9000, .box [.t (.sc (.int .i64 o1))])]) (.ag [.t (.sc (.int .i64 r.1.kind)), .t (.sc (.int .i64 r.1.id)), .t (.sc (.str r.1.name)), .t (.sc (.int .i64 r.1.n)), .t (.sl (r.1.ids.map rI)), .t (.sc (.int .i64 r.1.data.kind)), .t (.sc (.str r.1.data.name)), .t (.sc (.int .i64 r.1.data.n)), .t (.sl (r.1.data.scopes.map rI)), .t (.sl (r.1.data.kids.map Form.row)), .t (.sl (r.1.kids.map Core.row))]) (objs [(9000, .box [.t (.sc (.int .i64 r.2))])])
theorem m_impl_renumber_n_ok (fuel : Nat) : m_impl_renumber_n_AC fuel := by
 intro x1 o1 r hF0
 unfold m_impl_renumber_n at hF0
 refine AC_i [.ag [.t (.sc (.int .i64 r.1.kind)), .t (.sc (.int .i64 r.1.id)), .t (.sc (.str r.1.name)), .t (.sc (.int .i64 r.1.n)), .t (.sl (r.1.ids.map rI)), .t (.sc (.int .i64 r.1.data.kind)), .t (.sc (.str r.1.data.name)), .t (.sc (.int .i64 r.1.data.n)), .t (.sl (r.1.data.scopes.map rI)), .t (.sl (r.1.data.kids.map Form.row)), .t (.sl (r.1.kids.map Core.row))]] Tryz.func55 rfl Tryz.ntmps55 ?_
 intro C hC
 refine awp_seq (awp_region ?_)
 refine s_box ?_
 refine s_alloc yZ36 ?_
 refine k_nil (k_seq (awp_seq ?_))
 refine awp_draw yMix (by kernel_rfl) ?_
 refine s_fa yF36_0 ?_
 refine s_ld1 yA3 ?_
 refine s_fa yF36_1 ?_
 refine s_ld1 yA3 ?_
 refine s_fa yF36_2 ?_
 refine s_ld1 yA9 ?_
 refine s_fa yF36_3 ?_
 refine s_ld1 yA3 ?_
 refine s_fa yF36_5 ?_
 refine s_ldN yA33 yS33 ?_
 obtain ⟨v1, hv1, hF1⟩ := bind_some' hF0
 refine s_pure [] (m_impl_copyForm_ok fuel _ _ hv1) ?_
 refine s_bld yZ36 yL36 ?_
 refine s_alloc yZ36 ?_
 refine s_stW yS36 ?_
 refine k_nilD (by kernel_rfl) ?_
 refine k_seq ?_
 refine awp_jn (α := Nat × Int) [27, 28, 29, 30, 31, 32, 33, 34] [7] [] (fun a => []) (fun a => [(7, .box [.t (.sc (.int .i64 x1.kind)), .t (.sc (.int .i64 a.2)), .t (.sc (.str x1.name)), .t (.sc (.int .i64 x1.n)), .nl, .t (.sc (.int .i64 v1.kind)), .t (.sc (.str v1.name)), .t (.sc (.int .i64 v1.n)), .t (.sl (v1.scopes.map rI)), .t (.sl (v1.kids.map Form.row)), .nl])]) (fun a => a.1 ≤ fuel ∧ m_impl_renumber_n_j1 a.1 x1 o1 v1 a.2 = some r) ?_ ?_
 refine awp_seq (awp_region ?_)
 refine s_fa yF36_0 ?_
 refine s_ld1 yA3 ?_
 refine s_eq ?_
 refine k_nil (k_seq ?_)
 refine w_cond hF1 ?_ ?_ <;> intro hc2 hF2
 refine awp_region ?_
 refine s_mv ?_
 refine s_fa yF36_1 ?_
 refine s_ld1 yA3 ?_
 refine s_lookN yM107 ?_
 refine s_fa yF36_1 ?_
 refine s_stP yS3 ?_
 refine k_nil ?_
 exact s_jn (fuel, 0) ⟨by first | omega | (dsimp only; omega), hF2⟩
 refine awp_skip ?_
 exact s_jn (fuel, x1.id) ⟨by first | omega | (dsimp only; omega), hF2⟩
 clear hF1
 rintro ⟨fu, g3⟩ ⟨hl4, hF2⟩
 dsimp only at hl4 hF2 ⊢
 obtain _ | fu := fu
 · rw [m_impl_renumber_n_j1] at hF2; cases hF2
 rw [m_impl_renumber_n_j1] at hF2
 refine awp_seq (awp_region ?_)
 refine s_mkm ?_
 refine s_as ?_
 refine k_nil (k_seq (awp_seq (awp_seq (awp_region ?_))))
 refine s_mv ?_
 refine s_rangeN yM107 ?_
 refine k_nil (k_seq (awp_block ?_))
 refine awp_fr (β := Unit) [9, 10, 38, 39, 40, 41, 42, 43, 44, 45] [] [] (fun a => []) (fun a => []) (fun a => True) (0, ()) trivial ?_
 rintro ⟨_, _⟩ _
 refine awp_seq (awp_region ?_)
 refine s_nextN ?_
 refine s_ext ?_
 refine k_nil (k_seq (awp_seq (awp_false rfl ?_)))
 refine awp_exit (k_seq_exit (k_rnd_exit2 (k_blk_exit ?_)))
 refine k_seq ?_
 refine awp_kill 37 rfl ?_
 refine awp_jn (α := Nat × Int × (Int → Option Int) × (List Int)) [12, 46, 47, 48, 49, 50, 51, 52, 53, 54, 55, 56, 57, 58, 59, 60, 61, 62, 63, 64, 65, 66, 67, 68, 69, 70, 71] [7, 35, 5060, 9000] [] (fun a => []) (fun a => [(7, .box [.t (.sc (.int .i64 x1.kind)), .t (.sc (.int .i64 g3)), .t (.sc (.str x1.name)), .t (.sc (.int .i64 x1.n)), .ar 5060, .t (.sc (.int .i64 v1.kind)), .t (.sc (.str v1.name)), .t (.sc (.int .i64 v1.n)), .t (.sl (v1.scopes.map rI)), .t (.sl (v1.kids.map Form.row)), .nl]), (35, .mp a.2.2.1), (5060, .arr (a.2.2.2.map rI) 3 true), (9000, .box [.t (.sc (.int .i64 a.2.1))])]) (fun a => a.1 ≤ fu ∧ m_impl_renumber_j2 a.1 x1 v1 g3 a.2.1 a.2.2.1 a.2.2.2 = some r) ?_ ?_
 refine awp_seq (awp_region ?_)
 refine s_fa yF36_4 ?_
 refine s_ld1 yA22 ?_
 refine s_lenT yU22 ?_
 refine s_mv ?_
 refine k_nil (k_seq (awp_block ?_))
 refine awp_ownB 7 5060 3 [.t (.sc (.int .i64 x1.kind)), .t (.sc (.int .i64 g3)), .t (.sc (.str x1.name)), .t (.sc (.int .i64 x1.n)), .ar 5060, .t (.sc (.int .i64 v1.kind)), .t (.sc (.str v1.name)), .t (.sc (.int .i64 v1.n)), .t (.sl (v1.scopes.map rI)), .t (.sl (v1.kids.map Form.row)), .nl] yI3.choose_spec ?_
 refine awp_frame2 [12, 49, 50, 51, 52, 53, 54, 55, 56, 57, 58, 59, 60, 61, 62, 63, 64, 65, 66, 67, 68, 69, 70, 71] [7, 35, 5060, 9000] [68, 69] [5060] (fun a : Nat × Int × Int × (List Int) × (Int → Option Int) => a.1) (fun a : Nat × Int × Int × (List Int) × (Int → Option Int) => [(49, .t (.sc (.int .i64 a.2.1)))]) (fun a : Nat × Int × Int × (List Int) × (Int → Option Int) => [(7, .box [.t (.sc (.int .i64 x1.kind)), .t (.sc (.int .i64 g3)), .t (.sc (.str x1.name)), .t (.sc (.int .i64 x1.n)), .ar 5060, .t (.sc (.int .i64 v1.kind)), .t (.sc (.str v1.name)), .t (.sc (.int .i64 v1.n)), .t (.sl (v1.scopes.map rI)), .t (.sl (v1.kids.map Form.row)), .nl]), (35, .mp a.2.2.2.2), (5060, .arr (a.2.2.2.1.map rI) 3 true), (9000, .box [.t (.sc (.int .i64 a.2.2.1))])]) (fun a : Nat × Int × Int × (List Int) × (Int → Option Int) => a.1 ≤ fu ∧ m_impl_renumber_l3 a.1 x1 v1 g3 a.2.1 a.2.2.1 a.2.2.2.1 a.2.2.2.2 = some r ∧ 0 ≤ a.2.1) (fu, 0, o1, ([] : List Int), map0) ⟨Nat.le_refl _, hF2, by simp⟩ (by rfl) (by rfl) (fun _ => rfl) (hasF_cons (by conv => lhs; whnf) (by rfl) hasF_nil) (hasO_cons (by conv => lhs; whnf) (by rfl) (hasO_cons (by conv => lhs; whnf) (by rfl) (hasO_cons (by conv => lhs; whnf) (by rfl) (hasO_cons (by conv => lhs; whnf) (by rfl) hasO_nil)))) (fresh_C hC rfl) (by repeat (first | exact freshS_args rfl | refine freshS_upd rfl ?_ | refine freshS_frame rfl ?_)) (by repeat (first | exact freshM_no | exact objs_fresh rfl | refine freshM_upd rfl ?_ | refine freshM_frame rfl ?_)) ?_
 clear hF2
 rintro ⟨fu, g5, g6, g7, g8⟩ ⟨hl9, hF3, hn_g5⟩
 dsimp only at hl9 hF3 hn_g5 ⊢
 obtain _ | fu := fu
 · rw [m_impl_renumber_l3] at hF3; cases hF3
 rw [m_impl_renumber_l3] at hF3
 refine awp_seq (awp_region ?_)
 refine s_lt ?_
 refine k_nil (k_seq (awp_seq ?_))
 refine w_cond hF3 ?_ ?_ <;> intro hc10 hF4
 refine awp_lenT 47 (fun hb11 => ?_)
 refine awp_skip (k_seq (awp_seq (awp_block (awp_seq (awp_region ?_)))))
 obtain ⟨v12, hv12, hF5⟩ := bind_some' hF4
 refine s_ixT rI hv12 rfl yE22 ?_
 refine s_ld1 yA3 ?_
 refine s_as ?_
 refine k_nil (k_seq (awp_seq (awp_region ?_)))
 refine s_mv ?_
 refine s_nc ?_
 refine s_ld1 yA3 ?_
 refine s_add rfl ?_
 refine s_nc ?_
 refine s_stW yS3 ?_
 refine k_nil (k_seq (awp_seq (awp_region ?_)))
 iterate 3 refine s_mv ?_
 refine s_nc ?_
 refine s_ld1 yA3 ?_
 refine s_mupd yM107 ?_
 refine k_nil (k_seq ?_)
 refine awp_draw yMix (by kernel_rfl) ?_
 refine s_fa yF36_4 ?_
 refine s_ld1 yA22 ?_
 refine s_mv0 ?_
 refine s_nc ?_
 refine s_ld1 yA3 ?_
 refine s_bs rI [(w64 (g6 + 1))] yP22 yR3 ?_
 obtain ⟨hk13, hF6⟩ := chk_some hF5
 refine s_apT rI (fun _ => rfl) hk13 yP22 ?_
 refine s_fa yF36_4 ?_
 refine s_stP yS22 ?_
 refine k_nilD (by kernel_rfl) ?_
 refine k_blk (k_seq (awp_region ?_))
 refine s_add (winc2 hc10 hb11 hn_g5) ?_
 refine s_mv ?_
 refine k_nil ?_
 exact s_rn (fu, (g5 + 1), (w64 (g6 + 1)), (g7 ++ [(w64 (g6 + 1))]), (mapSet g8 v12 (w64 (g6 + 1)))) ⟨by first | omega | (dsimp only; omega), hF6, by first | omega | (dsimp only; omega)⟩ [(5060, 69)]
 refine awp_exit (k_seq_exit (k_rnd_exit2 (k_blk_exit ?_)))
 exact s_jn (fu, g6, g8, g7) ⟨by first | omega | (dsimp only; omega), hF4⟩
 clear hF2
 rintro ⟨fu, g14, g15, g16⟩ ⟨hl17, hF3⟩
 dsimp only at hl17 hF3 ⊢
 obtain _ | fu := fu
 · rw [m_impl_renumber_j2] at hF3; cases hF3
 rw [m_impl_renumber_j2] at hF3
 refine awp_seq (awp_seq (awp_region ?_))
 refine s_fa yF36_6 ?_
 refine s_ld1 yA34 ?_
 refine s_lenT yU34 ?_
 refine s_mv ?_
 refine k_nil (k_seq (awp_block ?_))
 refine awp_ownB 7 5080 36 [.t (.sc (.int .i64 x1.kind)), .t (.sc (.int .i64 g3)), .t (.sc (.str x1.name)), .t (.sc (.int .i64 x1.n)), .ar 5060, .t (.sc (.int .i64 v1.kind)), .t (.sc (.str v1.name)), .t (.sc (.int .i64 v1.n)), .t (.sl (v1.scopes.map rI)), .t (.sl (v1.kids.map Form.row)), .ar 5080] yI36.choose_spec ?_
 refine awp_frame2 [14, 75, 76, 77, 78, 79, 80, 81, 82, 83, 84, 85, 86, 87, 88] [7, 5080, 9000] [14, 85, 86] [5080] (fun a : Nat × Int × Int × (List Core) => a.1) (fun a : Nat × Int × Int × (List Core) => [(75, .t (.sc (.int .i64 a.2.1)))]) (fun a : Nat × Int × Int × (List Core) => [(7, .box [.t (.sc (.int .i64 x1.kind)), .t (.sc (.int .i64 g3)), .t (.sc (.str x1.name)), .t (.sc (.int .i64 x1.n)), .ar 5060, .t (.sc (.int .i64 v1.kind)), .t (.sc (.str v1.name)), .t (.sc (.int .i64 v1.n)), .t (.sl (v1.scopes.map rI)), .t (.sl (v1.kids.map Form.row)), .ar 5080]), (5080, .arr (a.2.2.2.map Core.row) 36 true), (9000, .box [.t (.sc (.int .i64 a.2.2.1))])]) (fun a : Nat × Int × Int × (List Core) => a.1 ≤ fu ∧ m_impl_renumber_l4 a.1 x1 v1 g3 g15 g16 a.2.1 a.2.2.1 a.2.2.2 = some r ∧ 0 ≤ a.2.1) (fu, 0, g14, ([] : List Core)) ⟨Nat.le_refl _, hF3, by simp⟩ (by rfl) (by rfl) (fun _ => rfl) (hasF_cons (by conv => lhs; whnf) (by rfl) hasF_nil) (hasO_cons (by conv => lhs; whnf) (by rfl) (hasO_cons (by conv => lhs; whnf) (by rfl) (hasO_cons (by conv => lhs; whnf) (by rfl) hasO_nil))) (fresh_C hC rfl) (by repeat (first | exact freshS_args rfl | refine freshS_upd rfl ?_ | refine freshS_frame rfl ?_)) (by repeat (first | exact freshM_no | exact objs_fresh rfl | refine freshM_upd rfl ?_ | refine freshM_frame rfl ?_)) ?_
 clear hF3
 rintro ⟨fu, g18, g19, g20⟩ ⟨hl21, hF4, hn_g18⟩
 dsimp only at hl21 hF4 hn_g18 ⊢
 obtain _ | fu := fu
 · rw [m_impl_renumber_l4] at hF4; cases hF4
 rw [m_impl_renumber_l4] at hF4
 refine awp_seq (awp_region ?_)
 refine s_lt ?_
 refine k_nil (k_seq (awp_seq ?_))
 refine w_cond hF4 ?_ ?_ <;> intro hc22 hF5
 refine awp_lenT 73 (fun hb23 => ?_)
 refine awp_skip (k_seq (awp_seq (awp_block (awp_seq (awp_region ?_)))))
 obtain ⟨v24, hv24, hF6⟩ := bind_some' hF5
 refine s_ixT Core.row hv24 (Core.row_eq _) yE34 ?_
 refine s_ldN yA36 yS36 ?_
 refine s_alloc yZ36 ?_
 refine s_stW yS36 ?_
 refine k_nil (k_seq ?_)
 refine awp_draw yMix (by kernel_rfl) ?_
 refine s_fa yF36_6 ?_
 refine s_ld1 yA34 ?_
 refine s_ldW yA36 yS36 ?_
 refine s_mv0 ?_
 refine s_mv0 ?_
 obtain ⟨v25, hv25, hF7⟩ := bind_some' hF6
 refine s_call [(9301, 35), (9000, 9000)] [] _ _ (m_impl_renumber_ok fu _ _ _ _ hv25) ?_
 refine s_bs Core.row [v25.1] yP34 yR36 ?_
 obtain ⟨hk26, hF8⟩ := chk_some hF7
 refine s_apT Core.row (fun y => Core.row_len y) hk26 yP34 ?_
 refine s_fa yF36_6 ?_
 refine s_stP yS34 ?_
 refine k_nilD (by kernel_rfl) ?_
 refine k_blk (k_seq (awp_region ?_))
 refine s_add (winc2 hc22 hb23 hn_g18) ?_
 refine s_mv ?_
 refine k_nil ?_
 exact s_rn (fu, (g18 + 1), v25.2, (g20 ++ [v25.1])) ⟨by first | omega | (dsimp only; omega), hF8, by first | omega | (dsimp only; omega)⟩ [(5080, 86)]
 refine awp_exit (k_seq_exit (k_rnd_exit2 (k_blk_exit (k_seq (awp_seq (awp_region ?_))))))
 refine s_ldW yA36 yS36 ?_
 refine s_stW yS36 ?_
 refine k_nil (k_seq (awp_ret (k_fin ?_)))
 cases hF5
 exact ends_gen _ [5060, 5080] (by rw [Tryz.results55]; exact (res_agg (by conv => lhs; whnf) (by conv => lhs; whnf) yA36 yS36 rfl res_nil))
def m_impl_NumberCore_AC (fuel : Nat) : Prop := ∀ (x1 : Core) (r : (Core × Bool)), m_impl_NumberCore fuel x1 = some r → AC Tryz.prog 22 [.ag [.t (.sc (.int .i64 x1.kind)), .t (.sc (.int .i64 x1.id)), .t (.sc (.str x1.name)), .t (.sc (.int .i64 x1.n)), .t (.sl (x1.ids.map rI)), .t (.sc (.int .i64 x1.data.kind)), .t (.sc (.str x1.data.name)), .t (.sc (.int .i64 x1.data.n)), .t (.sl (x1.data.scopes.map rI)), .t (.sl (x1.data.kids.map Form.row)), .t (.sl (x1.kids.map Core.row))]] noOb (.tp [.ag [.t (.sc (.int .i64 r.1.kind)), .t (.sc (.int .i64 r.1.id)), .t (.sc (.str r.1.name)), .t (.sc (.int .i64 r.1.n)), .t (.sl (r.1.ids.map rI)), .t (.sc (.int .i64 r.1.data.kind)), .t (.sc (.str r.1.data.name)), .t (.sc (.int .i64 r.1.data.n)), .t (.sl (r.1.data.scopes.map rI)), .t (.sl (r.1.data.kids.map Form.row)), .t (.sl (r.1.kids.map Core.row))], .t (.sc (.bool r.2))]) noOb
theorem m_impl_NumberCore_ok (fuel : Nat) : m_impl_NumberCore_AC fuel := by
 intro x1 r hF0
 unfold m_impl_NumberCore at hF0
 refine AC_i [.ag [.t (.sc (.int .i64 r.1.kind)), .t (.sc (.int .i64 r.1.id)), .t (.sc (.str r.1.name)), .t (.sc (.int .i64 r.1.n)), .t (.sl (r.1.ids.map rI)), .t (.sc (.int .i64 r.1.data.kind)), .t (.sc (.str r.1.data.name)), .t (.sc (.int .i64 r.1.data.n)), .t (.sl (r.1.data.scopes.map rI)), .t (.sl (r.1.data.kids.map Form.row)), .t (.sl (r.1.kids.map Core.row))], .t (.sc (.bool r.2))] Tryz.func22 rfl Tryz.ntmps22 ?_
 intro C hC
 refine awp_seq (awp_region ?_)
 refine s_box ?_
 refine s_alloc yZ36 ?_
 refine s_as ?_
 refine k_nil (k_seq (awp_seq (awp_seq (awp_region ?_))))
 refine s_ldW yA36 yS36 ?_
 obtain ⟨v1, hv1, hF1⟩ := bind_some' hF0
 refine s_pure [] (m_impl_CoreValid_ok fuel _ _ hv1) ?_
 refine s_not ?_
 refine k_nil (k_seq ?_)
 refine w_cond hF1 ?_ ?_ <;> intro hc2 hF2
 refine awp_seq (awp_region ?_)
 refine s_bld yZ36 yL36 ?_
 refine s_stW yS36 ?_
 refine s_as ?_
 refine k_nil (k_seq (awp_ret (k_seq_ret (k_fin ?_))))
 cases hF2
 exact ends_gen [] [] (by rw [Tryz.results22]; exact (res_agg (by conv => lhs; whnf) (by conv => lhs; whnf) yA36 yS36 rfl (res_tmp (by conv => lhs; whnf) res_nil)))
 refine awp_skip (k_seq (awp_seq (awp_region ?_)))
 refine s_alloc yZ3 ?_
 refine s_stW yS3 ?_
 refine k_nil (k_seq (awp_seq (awp_region ?_)))
 refine s_ldW yA36 yS36 ?_
 obtain ⟨v3, hv3, hF3⟩ := bind_some' hF2
 refine s_call [(9000, 4)] [] _ _ (m_impl_renumber_n_ok fuel _ _ _ hv3) ?_
 refine s_alloc yZ36 ?_
 refine s_stW yS36 ?_
 refine k_nil (k_seq (awp_seq (awp_seq (awp_region ?_))))
 refine s_ld1 yA3 ?_
 refine s_gt ?_
 refine k_nil (k_seq ?_)
 refine w_cond hF3 ?_ ?_ <;> intro hc4 hF4
 refine awp_seq (awp_region ?_)
 refine s_bld yZ36 yL36 ?_
 refine s_stW yS36 ?_
 refine s_as ?_
 refine k_nil (k_seq (awp_ret (k_seq_ret (k_fin ?_))))
 cases hF4
 exact ends_gen [] [] (by rw [Tryz.results22]; exact (res_agg (by conv => lhs; whnf) (by conv => lhs; whnf) yA36 yS36 rfl (res_tmp (by conv => lhs; whnf) res_nil)))
 refine awp_skip (k_seq (awp_seq (awp_region ?_)))
 refine s_ldW yA36 yS36 ?_
 refine s_stW yS36 ?_
 refine s_as ?_
 refine k_nil (k_seq (awp_ret (k_fin ?_)))
 cases hF4
 exact ends_gen [] [] (by rw [Tryz.results22]; exact (res_agg (by conv => lhs; whnf) (by conv => lhs; whnf) yA36 yS36 rfl (res_tmp (by conv => lhs; whnf) res_nil)))
def m_impl_CoreSize_AC (fuel : Nat) : Prop := ∀ (x1 : Core) (r : Int), m_impl_CoreSize fuel x1 = some r → AC Tryz.prog 23 [.ag [.t (.sc (.int .i64 x1.kind)), .t (.sc (.int .i64 x1.id)), .t (.sc (.str x1.name)), .t (.sc (.int .i64 x1.n)), .t (.sl (x1.ids.map rI)), .t (.sc (.int .i64 x1.data.kind)), .t (.sc (.str x1.data.name)), .t (.sc (.int .i64 x1.data.n)), .t (.sl (x1.data.scopes.map rI)), .t (.sl (x1.data.kids.map Form.row)), .t (.sl (x1.kids.map Core.row))]] noOb (.t (.sc (.int .i64 r))) noOb
theorem m_impl_CoreSize_st (fu : Nat) (ih_m_impl_CoreSize : ∀ k, k ≤ fu → m_impl_CoreSize_AC k) : m_impl_CoreSize_AC (fu + 1) := by
 intro x1 r hF0
 rw [m_impl_CoreSize] at hF0
 refine AC_i [.t (.sc (.int .i64 r))] Tryz.func23 rfl Tryz.ntmps23 ?_
 intro C hC
 refine awp_seq (awp_region ?_)
 refine s_box ?_
 refine s_as ?_
 refine k_nil (k_seq (awp_seq (awp_region ?_)))
 refine s_as ?_
 refine k_nil (k_seq (awp_seq (awp_seq (awp_region ?_))))
 refine s_fa yF36_6 ?_
 refine s_ld1 yA34 ?_
 refine s_lenT yU34 ?_
 refine s_mv ?_
 refine k_nil (k_seq (awp_block ?_))
 refine awp_fr (β := Int × Int) [3, 5, 9, 10, 11, 12, 13, 14, 15, 16, 17] [] [5] (fun a => [(3, .t (.sc (.int .i64 a.2.1))), (9, .t (.sc (.int .i64 a.2.2)))]) (fun a => []) (fun a => a.1 ≤ fu ∧ m_impl_CoreSize_l1 a.1 x1 a.2.1 a.2.2 = some r ∧ 0 ≤ a.2.2) (fu, 1, 0) ⟨Nat.le_refl _, hF0, by simp⟩ ?_
 clear hF0
 rintro ⟨fu, g1, g2⟩ ⟨hl3, hF1, hn_g2⟩
 dsimp only at hl3 hF1 hn_g2 ⊢
 obtain _ | fu := fu
 · rw [m_impl_CoreSize_l1] at hF1; cases hF1
 rw [m_impl_CoreSize_l1] at hF1
 refine awp_seq (awp_region ?_)
 refine s_lt ?_
 refine k_nil (k_seq (awp_seq ?_))
 refine w_cond hF1 ?_ ?_ <;> intro hc4 hF2
 refine awp_lenT 7 (fun hb5 => ?_)
 refine awp_skip (k_seq (awp_seq (awp_block (awp_seq (awp_region ?_)))))
 obtain ⟨v6, hv6, hF3⟩ := bind_some' hF2
 refine s_ixT Core.row hv6 (Core.row_eq _) yE34 ?_
 refine s_ldN yA36 yS36 ?_
 refine s_alloc yZ36 ?_
 refine s_stW yS36 ?_
 refine k_nil (k_seq (awp_region ?_))
 refine s_mv ?_
 refine s_ldW yA36 yS36 ?_
 obtain ⟨v7, hv7, hF4⟩ := bind_some' hF3
 refine s_pure [] (ih_m_impl_CoreSize fu (by omega) _ _ hv7) ?_
 refine s_add rfl ?_
 refine s_as ?_
 refine k_nil (k_blk (k_seq (awp_region ?_)))
 refine s_add (winc2 hc4 hb5 hn_g2) ?_
 refine s_mv ?_
 refine k_nil ?_
 exact s_rn (fu, (w64 (g1 + v7)), (g2 + 1)) ⟨by first | omega | (dsimp only; omega), hF4, by first | omega | (dsimp only; omega)⟩
 refine awp_exit (k_seq_exit (k_rnd_exit2 (k_blk_exit (k_seq (awp_seq (awp_region ?_))))))
 refine s_mv ?_
 refine s_as ?_
 refine k_nil (k_seq (awp_ret (k_fin ?_)))
 cases hF2
 exact ends_a [] [] Tryz.results23
theorem m_impl_CoreSize_all (fuel : Nat) : m_impl_CoreSize_AC fuel := by
 induction fuel using Nat.strongRecOn with
 | _ N ih =>
   cases N with
   | zero => exact (by intro x1 r h; rw [m_impl_CoreSize] at h; cases h)
   | succ fu => exact m_impl_CoreSize_st fu (fun k hk => (ih k (by omega)))
theorem m_impl_CoreSize_ok (fuel : Nat) : m_impl_CoreSize_AC fuel := (m_impl_CoreSize_all fuel)
def m_slices_Index_string_AC (fuel : Nat) : Prop := ∀ (x1 : (List ByteArray)) (x2 : ByteArray) (r : Int), m_slices_Index_string fuel x1 x2 = some r → AC Tryz.prog 124 [.t (.sl (x1.map rS)), .t (.sc (.str x2))] noOb (.t (.sc (.int .i64 r))) noOb
theorem m_slices_Index_string_ok (fuel : Nat) : m_slices_Index_string_AC fuel := by
 intro x1 x2 r hF0
 unfold m_slices_Index_string at hF0
 refine AC_i [.t (.sc (.int .i64 r))] Tryz.func124 rfl Tryz.ntmps124 ?_
 intro C hC
 refine awp_seq (awp_region ?_)
 refine s_as ?_
 refine k_nil (k_seq (awp_seq (awp_seq (awp_region ?_))))
 refine s_mv ?_
 refine s_lenT yU50 ?_
 refine s_mv ?_
 refine k_nil (k_seq (awp_block ?_))
 refine awp_fr (β := Int) [4, 5, 8, 9, 10, 11, 12, 13, 14, 15, 16, 17, 18] [] [] (fun a => [(8, .t (.sc (.int .i64 a.2)))]) (fun a => []) (fun a => a.1 ≤ fuel ∧ m_slices_Index_string_l1 a.1 x1 x2 a.2 = some r ∧ 0 ≤ a.2) (fuel, 0) ⟨Nat.le_refl _, hF0, by simp⟩ ?_
 clear hF0
 rintro ⟨fu, g1⟩ ⟨hl2, hF1, hn_g1⟩
 dsimp only at hl2 hF1 hn_g1 ⊢
 obtain _ | fu := fu
 · rw [m_slices_Index_string_l1] at hF1; cases hF1
 rw [m_slices_Index_string_l1] at hF1
 refine awp_seq (awp_region ?_)
 refine s_lt ?_
 refine k_nil (k_seq (awp_seq ?_))
 refine w_cond hF1 ?_ ?_ <;> intro hc3 hF2
 refine awp_lenT 0 (fun hb4 => ?_)
 refine awp_skip (k_seq (awp_seq (awp_block (awp_seq (awp_region ?_)))))
 refine s_mv ?_
 refine s_as ?_
 refine k_nil (k_seq (awp_seq (awp_region ?_)))
 iterate 3 refine s_mv ?_
 obtain ⟨v5, hv5, hF3⟩ := bind_some' hF2
 refine s_ixT rS hv5 rfl yE50 ?_
 refine s_ld1 yA9 ?_
 refine s_eqS ?_
 refine k_nil (k_seq ?_)
 refine w_cond hF3 ?_ ?_ <;> intro hc6 hF4
 refine awp_seq (awp_region ?_)
 refine s_mv ?_
 refine s_as ?_
 refine k_nil (k_seq (awp_ret (k_blk_ret (k_seq_ret (k_rnd_ret2 (k_blk_ret (k_seq_ret (k_fin ?_))))))))
 cases hF4
 exact ends_a [] [] Tryz.results124
 refine awp_skip (k_blk (k_seq (awp_region ?_)))
 refine s_add (winc2 hc3 hb4 hn_g1) ?_
 refine s_mv ?_
 refine k_nil ?_
 exact s_rn (fu, (g1 + 1)) ⟨by first | omega | (dsimp only; omega), hF4, by first | omega | (dsimp only; omega)⟩
 refine awp_exit (k_seq_exit (k_rnd_exit2 (k_blk_exit (k_seq (awp_seq (awp_region ?_))))))
 refine s_as ?_
 refine k_nil (k_seq (awp_ret (k_fin ?_)))
 cases hF2
 exact ends_a [] [] Tryz.results124
end Go.Abs
