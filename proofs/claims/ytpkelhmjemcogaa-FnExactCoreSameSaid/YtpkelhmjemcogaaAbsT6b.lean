/- A part of the proof: contracts of the functions that the law calls, on pure values. -/
import Derived.Test.YtpkelhmjemcogaaAbsT6
set_option linter.unusedSimpArgs false
set_option maxHeartbeats 4000000
set_option linter.unusedVariables false
namespace Go.Abs
open Go.Proofs
theorem specCoreSame_ok : ∀ (a b : Core), T.wtL a.row ≤ 2 ^ 30 → T.wtL b.row ≤ 2 ^ 30 → AC Try.prog 18 [.ag (a.row.map .t), .ag (b.row.map .t)] noOb (vb (eqb a b)) noOb
  | (Core.mk kind id name n ids (Form.mk data_kind data_name data_n data_scopes data_kids) kids), (Core.mk z_kind z_id z_name z_n z_ids (Form.mk z_data_kind z_data_name z_data_n z_data_scopes z_data_kids) z_kids), hl, hr => by
    rw [Core.row_mk] at hl hr ⊢
    rw [Core.row_mk]
    simp only [T.wtL, T.wt, S.wt, T.wtR_ints, List.length_map] at hl hr
    refine AC_intro (rs := [_]) Try.func18 rfl (by kernel_rfl) (by simp [Try.ntmps18]) (by simp [noOb]) ?_
    intro C hC
    rw [Try.ntmps18]
    refine awp_seq ?_
    refine awp_region ?_
    refine r_box rfl (by conv => lhs; whnf) rfl (by conv => lhs; whnf) rfl rfl ?_
    refine r_box rfl (by conv => lhs; whnf) rfl (by conv => lhs; whnf) rfl rfl ?_
    refine r_assign rfl (by conv => lhs; whnf) rfl ?_
    refine k_nil ?_
    refine k_seq ?_
    refine awp_seq ?_
    refine awp_seq ?_
    refine awp_region ?_
    refine r_fieldAddr rfl yF29_0e (by conv => lhs; whnf) (by conv => lhs; whnf) rfl ?_
    refine r_load1 rfl yA3e (by conv => lhs; whnf) (by conv => lhs; whnf) (by (try simp only [List.take_succ_cons, List.take_zero, List.drop_succ_cons, List.drop_zero, List.take_nil, List.drop_nil, List.nil_append, List.cons_append, List.append_nil, List.length_cons, List.length_nil, List.head?_cons, List.map_cons, List.map_nil, Nat.reduceAdd, Nat.zero_add, List.length_map]); rfl) rfl ?_
    refine r_fieldAddr rfl yF29_0e (by conv => lhs; whnf) (by conv => lhs; whnf) rfl ?_
    refine r_load1 rfl yA3e (by conv => lhs; whnf) (by conv => lhs; whnf) (by (try simp only [List.take_succ_cons, List.take_zero, List.drop_succ_cons, List.drop_zero, List.take_nil, List.drop_nil, List.nil_append, List.cons_append, List.append_nil, List.length_cons, List.length_nil, List.head?_cons, List.map_cons, List.map_nil, Nat.reduceAdd, Nat.zero_add, List.length_map]); rfl) rfl ?_
    refine r_bin rfl (by conv => lhs; whnf) (by conv => lhs; whnf) (by simp only [abin, reduceIte, ne_eq, decide_not, Bool.not_true, Bool.not_false]; rfl) rfl ?_
    refine r_move rfl (by conv => lhs; whnf) rfl ?_
    refine g_split (d := 11) (by conv => lhs; whnf) (fun hg1 => ?_) (fun hg1 => ?_)
    · rw [hg1]
      refine r_no rfl ?_
      refine r_no rfl ?_
      refine r_no rfl ?_
      refine r_no rfl ?_
      refine r_no rfl ?_
      refine r_pick rfl (by conv => lhs; whnf) (by conv => lhs; whnf) rfl ?_
      refine r_move rfl (by conv => lhs; whnf) rfl ?_
      refine r_no rfl ?_
      refine r_no rfl ?_
      refine r_no rfl ?_
      refine r_no rfl ?_
      refine r_no rfl ?_
      refine r_pick rfl (by conv => lhs; whnf) (by conv => lhs; whnf) rfl ?_
      refine r_move rfl (by conv => lhs; whnf) rfl ?_
      refine r_no rfl ?_
      refine r_no rfl ?_
      refine r_no rfl ?_
      refine r_no rfl ?_
      refine r_no rfl ?_
      refine r_pick rfl (by conv => lhs; whnf) (by conv => lhs; whnf) rfl ?_
      refine r_move rfl (by conv => lhs; whnf) rfl ?_
      refine r_no rfl ?_
      refine r_no rfl ?_
      refine r_no rfl ?_
      refine r_no rfl ?_
      refine r_no rfl ?_
      refine r_no rfl ?_
      refine r_pick rfl (by conv => lhs; whnf) (by conv => lhs; whnf) rfl ?_
      refine r_move rfl (by conv => lhs; whnf) rfl ?_
      refine r_no rfl ?_
      refine r_no rfl ?_
      refine r_no rfl ?_
      refine r_no rfl ?_
      refine r_no rfl ?_
      refine r_no rfl ?_
      refine r_pick rfl (by conv => lhs; whnf) (by conv => lhs; whnf) rfl ?_
      refine r_move rfl (by conv => lhs; whnf) rfl ?_
      refine r_no rfl ?_
      refine r_no rfl ?_
      refine r_no rfl ?_
      refine r_no rfl ?_
      refine r_no rfl ?_
      refine r_no rfl ?_
      refine r_no rfl ?_
      refine r_pick rfl (by conv => lhs; whnf) (by conv => lhs; whnf) rfl ?_
      refine k_nil ?_
      refine k_seq ?_
      refine awp_cond rfl (fun hg2 => ?_) (fun hg2 => ?_)
      · refine awp_seq ?_
        refine awp_region ?_
        refine r_assign rfl (by conv => lhs; whnf) rfl ?_
        refine k_nil ?_
        refine k_seq ?_
        refine awp_ret ?_
        refine k_seq_ret ?_
        refine k_fin ?_
        refine ends_pure [] (by simp only [Try.results18, resOf, ev_tmp, ev_const, ev_func, upd_at, slots_cons, slots_nil, objs_cons, objs_nil, Nat.reduceLT, Nat.reduceEqDiff, Nat.reduceAdd, reduceIte, if_true, if_false, ofVal, ofS, noOb, reduceCtorEq]; rfl) (by
          refine ⟨.inl (congrArg (fun b => V.t (.sc (.bool b))) ?_), trivial⟩
          rw [Bool.eq_iff_iff]
          simp only [eqb_iff, Bool.false_eq_true, decide_eq_true_eq, Core.mk.injEq, Form.mk.injEq, Step.mk.injEq, Bind.mk.injEq, Hit.mk.injEq, Rule.mk.injEq, Macro.mk.injEq, Expansion.mk.injEq]
          simp_all [eqb_iff, eqb_not, -List.map_inj_left] <;> (try (intro e; subst e; simp_all))) (by simp [V.idsL, V.ids])
      · refine awp_skip ?_
        refine k_seq ?_
        refine awp_seq ?_
        refine awp_seq ?_
        refine awp_region ?_
        refine r_assign rfl (by conv => lhs; whnf) rfl ?_
        refine k_nil ?_
        refine k_seq ?_
        refine awp_block ?_
        have hAll : kind = z_kind ∧ id = z_id ∧ name = z_name ∧ n = z_n ∧ ids = z_ids ∧ data_kind = z_data_kind ∧ data_name = z_data_name ∧ data_n = z_data_n ∧ data_scopes = z_data_scopes ∧ data_kids = z_data_kids ∧ kids.length = z_kids.length := by simp_all [eqb_iff, eqb_not] <;> omega
        obtain ⟨rfl, rfl, rfl, rfl, rfl, rfl, rfl, rfl, rfl, rfl, hlen⟩ := hAll
        skip
        have hred : eqb (Core.mk kind id name n ids (Form.mk data_kind data_name data_n data_scopes data_kids) kids) (Core.mk kind id name n ids (Form.mk data_kind data_name data_n data_scopes data_kids) z_kids) = eqb kids z_kids := by rw [Bool.eq_iff_iff]; simp [eqb_iff]
        rw [hred]
        refine awp_frame [4, 5, 57, 58, 59, 60, 61, 62, 63, 64, 65, 66, 67, 68, 69, 70, 71, 72, 73, 74, 75] [] [] (fun j : Nat => kids.length - j) (fun j : Nat => [(5, vi j)]) (fun j : Nat => []) (fun j => j ≤ kids.length ∧ kids.take j = z_kids.take j) 0 ⟨Nat.zero_le _, by simp⟩ (by rfl) (by rfl) (fun _ => rfl) (hasF_cons (by conv => lhs; whnf) (by first | rfl | simp) (by first | rfl | simp [V.ids, V.idsL, idsL_t, Ob.ids]) trivial) trivial ?_
        rintro j ⟨hj, htk⟩
        refine awp_seq ?_
        refine awp_seq ?_
        refine awp_region ?_
        refine r_move rfl (by conv => lhs; whnf) rfl ?_
        refine r_fieldAddr rfl yF29_6e (by conv => lhs; whnf) (by conv => lhs; whnf) rfl ?_
        refine r_load1 rfl yA27e (by conv => lhs; whnf) (by conv => lhs; whnf) (by (try simp only [List.length_map, List.take_succ_cons, List.take_zero, List.drop_succ_cons, List.drop_zero, List.take_nil, List.drop_nil, List.nil_append, List.cons_append, List.append_nil, List.length_cons, List.length_nil, List.head?_cons, List.map_cons, List.map_nil, Nat.reduceAdd, Nat.zero_add, List.length_map]); rfl) rfl ?_
        refine r_len rfl yU27e (by conv => lhs; whnf) (by conv => lhs; whnf) rfl ?_
        refine r_bin rfl (by conv => lhs; whnf) (by conv => lhs; whnf) (by simp only [List.length_map, abin, reduceIte, ne_eq, decide_not, Bool.not_true, Bool.not_false]; rfl) rfl ?_
        refine k_nil ?_
        refine k_seq ?_
        refine awp_cond rfl (fun hc => ?_) (fun hc => ?_)
        · have hlt : j < kids.length := by have := of_decide_eq_true hc; omega
          have hlt2 : j < z_kids.length := by omega
          have hgl := map_get Core.row kids j hlt
          have hgr := map_get Core.row z_kids j hlt2
          have hw1 := IntWalk.i64_in ((j : Int) + 1) (by omega)
          clear hc
          have hle := T.wtR_le Core.row kids (j + 1)
          have hsucc := T.wtR_succ Core.row kids j hlt
          have hle2 := T.wtR_le Core.row z_kids (j + 1)
          have hsucc2 := T.wtR_succ Core.row z_kids j hlt2
          have hmem : kids[j] ∈ kids := List.getElem_mem hlt
          have hkid := specCoreSame_ok kids[j] z_kids[j] (by omega) (by omega)
          refine awp_skip ?_
          refine k_seq ?_
          refine awp_seq ?_
          refine awp_block ?_
          refine awp_seq ?_
          refine awp_draw yMixe (by kernel_rfl) ?_
          refine r_fieldAddr rfl yF29_6e (by conv => lhs; whnf) (by conv => lhs; whnf) (by simp only [fpOf, idOf, Option.getD_some, Option.getD_none, Op.operands, Call.operands, V.idsL, V.ids, idsL_t, List.append_nil, List.nil_append, List.cons_append, List.toList_toArray, List.map_toArray, List.size_toArray, List.append_toArray, ev_tmp, ev_const, ev_func, upd_at, slots_cons, slots_nil, objs_cons, objs_nil, Nat.reduceLT, Nat.reduceEqDiff, Nat.reduceAdd, reduceIte, if_true, if_false, ofVal, ofS, noOb, reduceCtorEq, List.take_succ_cons, List.take_zero, List.drop_succ_cons, List.drop_zero, List.take_nil, List.drop_nil, List.nil_append, List.cons_append, List.append_nil, List.length_cons, List.length_nil, List.head?_cons, List.map_cons, List.map_nil, Nat.reduceAdd, Nat.zero_add, List.length_map, hgl, hgr, Core.row_len, Core.take, List.length_map]; rfl) ?_
          refine r_load1 rfl yA27e (by conv => lhs; whnf) (by conv => lhs; whnf) (by (try simp only [hgl, hgr, Core.row_len, Core.take, List.length_map, List.take_succ_cons, List.take_zero, List.drop_succ_cons, List.drop_zero, List.take_nil, List.drop_nil, List.nil_append, List.cons_append, List.append_nil, List.length_cons, List.length_nil, List.head?_cons, List.map_cons, List.map_nil, Nat.reduceAdd, Nat.zero_add, List.length_map]); rfl) (by simp only [fpOf, idOf, Option.getD_some, Option.getD_none, Op.operands, Call.operands, V.idsL, V.ids, idsL_t, List.append_nil, List.nil_append, List.cons_append, List.toList_toArray, List.map_toArray, List.size_toArray, List.append_toArray, ev_tmp, ev_const, ev_func, upd_at, slots_cons, slots_nil, objs_cons, objs_nil, Nat.reduceLT, Nat.reduceEqDiff, Nat.reduceAdd, reduceIte, if_true, if_false, ofVal, ofS, noOb, reduceCtorEq, List.take_succ_cons, List.take_zero, List.drop_succ_cons, List.drop_zero, List.take_nil, List.drop_nil, List.nil_append, List.cons_append, List.append_nil, List.length_cons, List.length_nil, List.head?_cons, List.map_cons, List.map_nil, Nat.reduceAdd, Nat.zero_add, List.length_map, hgl, hgr, Core.row_len, Core.take, List.length_map]; rfl) ?_
          refine r_move rfl (by conv => lhs; whnf) (by simp only [fpOf, idOf, Option.getD_some, Option.getD_none, Op.operands, Call.operands, V.idsL, V.ids, idsL_t, List.append_nil, List.nil_append, List.cons_append, List.toList_toArray, List.map_toArray, List.size_toArray, List.append_toArray, ev_tmp, ev_const, ev_func, upd_at, slots_cons, slots_nil, objs_cons, objs_nil, Nat.reduceLT, Nat.reduceEqDiff, Nat.reduceAdd, reduceIte, if_true, if_false, ofVal, ofS, noOb, reduceCtorEq, List.take_succ_cons, List.take_zero, List.drop_succ_cons, List.drop_zero, List.take_nil, List.drop_nil, List.nil_append, List.cons_append, List.append_nil, List.length_cons, List.length_nil, List.head?_cons, List.map_cons, List.map_nil, Nat.reduceAdd, Nat.zero_add, List.length_map, hgl, hgr, Core.row_len, Core.take, List.length_map]; rfl) ?_
          refine r_indexAddr rfl yE27e (by conv => lhs; whnf) (by conv => lhs; whnf) (by omega) (by simp only [hgl, hgr, Core.row_len, Core.take, List.length_map, indexP, ev_tmp, ev_const, ev_func, upd_at, slots_cons, slots_nil, objs_cons, objs_nil, Nat.reduceLT, Nat.reduceEqDiff, Nat.reduceAdd, reduceIte, if_true, if_false, ofVal, ofS, noOb, reduceCtorEq]; rfl) (by simp only [fpOf, idOf, Option.getD_some, Option.getD_none, Op.operands, Call.operands, V.idsL, V.ids, idsL_t, List.append_nil, List.nil_append, List.cons_append, List.toList_toArray, List.map_toArray, List.size_toArray, List.append_toArray, ev_tmp, ev_const, ev_func, upd_at, slots_cons, slots_nil, objs_cons, objs_nil, Nat.reduceLT, Nat.reduceEqDiff, Nat.reduceAdd, reduceIte, if_true, if_false, ofVal, ofS, noOb, reduceCtorEq, List.take_succ_cons, List.take_zero, List.drop_succ_cons, List.drop_zero, List.take_nil, List.drop_nil, List.nil_append, List.cons_append, List.append_nil, List.length_cons, List.length_nil, List.head?_cons, List.map_cons, List.map_nil, Nat.reduceAdd, Nat.zero_add, List.length_map, hgl, hgr, Core.row_len, Core.take, List.length_map]; rfl) ?_
          refine r_loadN rfl yA29e yS29e (by conv => lhs; whnf) (by conv => lhs; whnf) (by simp only [hgl, hgr, Core.row_len, Core.take, List.length_map, List.take_succ_cons, List.take_zero, List.drop_succ_cons, List.drop_zero, List.take_nil, List.drop_nil, List.nil_append, List.cons_append, List.append_nil, List.length_cons, List.length_nil, List.head?_cons, List.map_cons, List.map_nil, Nat.reduceAdd, Nat.zero_add, List.length_map]; omega) (by (try simp only [hgl, hgr, Core.row_len, Core.take, List.length_map, List.take_succ_cons, List.take_zero, List.drop_succ_cons, List.drop_zero, List.take_nil, List.drop_nil, List.nil_append, List.cons_append, List.append_nil, List.length_cons, List.length_nil, List.head?_cons, List.map_cons, List.map_nil, Nat.reduceAdd, Nat.zero_add, List.length_map]); rfl) (by simp only [fpOf, idOf, Option.getD_some, Option.getD_none, Op.operands, Call.operands, V.idsL, V.ids, idsL_t, List.append_nil, List.nil_append, List.cons_append, List.toList_toArray, List.map_toArray, List.size_toArray, List.append_toArray, ev_tmp, ev_const, ev_func, upd_at, slots_cons, slots_nil, objs_cons, objs_nil, Nat.reduceLT, Nat.reduceEqDiff, Nat.reduceAdd, reduceIte, if_true, if_false, ofVal, ofS, noOb, reduceCtorEq, List.take_succ_cons, List.take_zero, List.drop_succ_cons, List.drop_zero, List.take_nil, List.drop_nil, List.nil_append, List.cons_append, List.append_nil, List.length_cons, List.length_nil, List.head?_cons, List.map_cons, List.map_nil, Nat.reduceAdd, Nat.zero_add, List.length_map, hgl, hgr, Core.row_len, Core.take, List.length_map]; rfl) ?_
          refine r_fieldAddr rfl yF29_6e (by conv => lhs; whnf) (by conv => lhs; whnf) (by simp only [fpOf, idOf, Option.getD_some, Option.getD_none, Op.operands, Call.operands, V.idsL, V.ids, idsL_t, List.append_nil, List.nil_append, List.cons_append, List.toList_toArray, List.map_toArray, List.size_toArray, List.append_toArray, ev_tmp, ev_const, ev_func, upd_at, slots_cons, slots_nil, objs_cons, objs_nil, Nat.reduceLT, Nat.reduceEqDiff, Nat.reduceAdd, reduceIte, if_true, if_false, ofVal, ofS, noOb, reduceCtorEq, List.take_succ_cons, List.take_zero, List.drop_succ_cons, List.drop_zero, List.take_nil, List.drop_nil, List.nil_append, List.cons_append, List.append_nil, List.length_cons, List.length_nil, List.head?_cons, List.map_cons, List.map_nil, Nat.reduceAdd, Nat.zero_add, List.length_map, hgl, hgr, Core.row_len, Core.take, List.length_map]; rfl) ?_
          refine r_load1 rfl yA27e (by conv => lhs; whnf) (by conv => lhs; whnf) (by (try simp only [hgl, hgr, Core.row_len, Core.take, List.length_map, List.take_succ_cons, List.take_zero, List.drop_succ_cons, List.drop_zero, List.take_nil, List.drop_nil, List.nil_append, List.cons_append, List.append_nil, List.length_cons, List.length_nil, List.head?_cons, List.map_cons, List.map_nil, Nat.reduceAdd, Nat.zero_add, List.length_map]); rfl) (by simp only [fpOf, idOf, Option.getD_some, Option.getD_none, Op.operands, Call.operands, V.idsL, V.ids, idsL_t, List.append_nil, List.nil_append, List.cons_append, List.toList_toArray, List.map_toArray, List.size_toArray, List.append_toArray, ev_tmp, ev_const, ev_func, upd_at, slots_cons, slots_nil, objs_cons, objs_nil, Nat.reduceLT, Nat.reduceEqDiff, Nat.reduceAdd, reduceIte, if_true, if_false, ofVal, ofS, noOb, reduceCtorEq, List.take_succ_cons, List.take_zero, List.drop_succ_cons, List.drop_zero, List.take_nil, List.drop_nil, List.nil_append, List.cons_append, List.append_nil, List.length_cons, List.length_nil, List.head?_cons, List.map_cons, List.map_nil, Nat.reduceAdd, Nat.zero_add, List.length_map, hgl, hgr, Core.row_len, Core.take, List.length_map]; rfl) ?_
          refine r_move rfl (by conv => lhs; whnf) (by simp only [fpOf, idOf, Option.getD_some, Option.getD_none, Op.operands, Call.operands, V.idsL, V.ids, idsL_t, List.append_nil, List.nil_append, List.cons_append, List.toList_toArray, List.map_toArray, List.size_toArray, List.append_toArray, ev_tmp, ev_const, ev_func, upd_at, slots_cons, slots_nil, objs_cons, objs_nil, Nat.reduceLT, Nat.reduceEqDiff, Nat.reduceAdd, reduceIte, if_true, if_false, ofVal, ofS, noOb, reduceCtorEq, List.take_succ_cons, List.take_zero, List.drop_succ_cons, List.drop_zero, List.take_nil, List.drop_nil, List.nil_append, List.cons_append, List.append_nil, List.length_cons, List.length_nil, List.head?_cons, List.map_cons, List.map_nil, Nat.reduceAdd, Nat.zero_add, List.length_map, hgl, hgr, Core.row_len, Core.take, List.length_map]; rfl) ?_
          refine r_indexAddr rfl yE27e (by conv => lhs; whnf) (by conv => lhs; whnf) (by omega) (by simp only [hgl, hgr, Core.row_len, Core.take, List.length_map, indexP, ev_tmp, ev_const, ev_func, upd_at, slots_cons, slots_nil, objs_cons, objs_nil, Nat.reduceLT, Nat.reduceEqDiff, Nat.reduceAdd, reduceIte, if_true, if_false, ofVal, ofS, noOb, reduceCtorEq]; rfl) (by simp only [fpOf, idOf, Option.getD_some, Option.getD_none, Op.operands, Call.operands, V.idsL, V.ids, idsL_t, List.append_nil, List.nil_append, List.cons_append, List.toList_toArray, List.map_toArray, List.size_toArray, List.append_toArray, ev_tmp, ev_const, ev_func, upd_at, slots_cons, slots_nil, objs_cons, objs_nil, Nat.reduceLT, Nat.reduceEqDiff, Nat.reduceAdd, reduceIte, if_true, if_false, ofVal, ofS, noOb, reduceCtorEq, List.take_succ_cons, List.take_zero, List.drop_succ_cons, List.drop_zero, List.take_nil, List.drop_nil, List.nil_append, List.cons_append, List.append_nil, List.length_cons, List.length_nil, List.head?_cons, List.map_cons, List.map_nil, Nat.reduceAdd, Nat.zero_add, List.length_map, hgl, hgr, Core.row_len, Core.take, List.length_map]; rfl) ?_
          refine r_loadN rfl yA29e yS29e (by conv => lhs; whnf) (by conv => lhs; whnf) (by simp only [hgl, hgr, Core.row_len, Core.take, List.length_map, List.take_succ_cons, List.take_zero, List.drop_succ_cons, List.drop_zero, List.take_nil, List.drop_nil, List.nil_append, List.cons_append, List.append_nil, List.length_cons, List.length_nil, List.head?_cons, List.map_cons, List.map_nil, Nat.reduceAdd, Nat.zero_add, List.length_map]; omega) (by (try simp only [hgl, hgr, Core.row_len, Core.take, List.length_map, List.take_succ_cons, List.take_zero, List.drop_succ_cons, List.drop_zero, List.take_nil, List.drop_nil, List.nil_append, List.cons_append, List.append_nil, List.length_cons, List.length_nil, List.head?_cons, List.map_cons, List.map_nil, Nat.reduceAdd, Nat.zero_add, List.length_map]); rfl) (by simp only [fpOf, idOf, Option.getD_some, Option.getD_none, Op.operands, Call.operands, V.idsL, V.ids, idsL_t, List.append_nil, List.nil_append, List.cons_append, List.toList_toArray, List.map_toArray, List.size_toArray, List.append_toArray, ev_tmp, ev_const, ev_func, upd_at, slots_cons, slots_nil, objs_cons, objs_nil, Nat.reduceLT, Nat.reduceEqDiff, Nat.reduceAdd, reduceIte, if_true, if_false, ofVal, ofS, noOb, reduceCtorEq, List.take_succ_cons, List.take_zero, List.drop_succ_cons, List.drop_zero, List.take_nil, List.drop_nil, List.nil_append, List.cons_append, List.append_nil, List.length_cons, List.length_nil, List.head?_cons, List.map_cons, List.map_nil, Nat.reduceAdd, Nat.zero_add, List.length_map, hgl, hgr, Core.row_len, Core.take, List.length_map]; rfl) ?_
          refine r_pure [] rfl rfl rfl (by conv => lhs; whnf) (by simp only [hgl, hgr, Core.row_len, Core.take, List.length_map, ev_tmp, ev_const, ev_func, upd_at, slots_cons, slots_nil, objs_cons, objs_nil, Nat.reduceLT, Nat.reduceEqDiff, Nat.reduceAdd, reduceIte, if_true, if_false, ofVal, ofS, noOb, reduceCtorEq, List.take_succ_cons, List.take_zero, List.drop_succ_cons, List.drop_zero, List.take_nil, List.drop_nil, List.nil_append, List.cons_append, List.append_nil, List.length_cons, List.length_nil, List.head?_cons, List.map_cons, List.map_nil, Nat.reduceAdd, Nat.zero_add, List.length_map, List.toList_toArray]; rfl) (by simp only [hgl, hgr, Core.row_len, Core.take, List.length_map, fzU, ev_tmp, ev_const, ev_func, upd_at, slots_cons, slots_nil, objs_cons, objs_nil, Nat.reduceLT, Nat.reduceEqDiff, Nat.reduceAdd, reduceIte, if_true, if_false, ofVal, ofS, noOb, reduceCtorEq]; rfl) (by simp only [app]; rfl) (hkid) (by exact ⟨(by first | exact pass_id rfl | exact pass_id (ids_row _) | exact .inr (.inl ⟨_, rfl, rfl, by simp [fz]⟩) | exact .inr (.inr ⟨_, _, rfl, rfl, rfl, by simp [fz]⟩)), (by first | exact pass_id rfl | exact pass_id (ids_row _) | exact .inr (.inl ⟨_, rfl, rfl, by simp [fz]⟩) | exact .inr (.inr ⟨_, _, rfl, rfl, rfl, by simp [fz]⟩)), trivial⟩) (by simp only [fpOf, Op.operands, Call.operands, V.idsL, V.ids, idsL_t, List.append_nil, List.nil_append, List.cons_append, List.map_toArray, List.append_toArray, hgl, hgr, Core.row_len, Core.take, List.length_map, ev_tmp, ev_const, ev_func, upd_at, slots_cons, slots_nil, objs_cons, objs_nil, Nat.reduceLT, Nat.reduceEqDiff, Nat.reduceAdd, reduceIte, if_true, if_false, ofVal, ofS, noOb, reduceCtorEq, List.take_succ_cons, List.take_zero, List.drop_succ_cons, List.drop_zero, List.take_nil, List.drop_nil, List.nil_append, List.cons_append, List.append_nil, List.length_cons, List.length_nil, List.head?_cons, List.map_cons, List.map_nil, Nat.reduceAdd, Nat.zero_add, List.length_map]; rfl) ?_
          refine r_un rfl (by conv => lhs; whnf) (by conv => lhs; whnf) (by simp only [fpOf, idOf, Option.getD_some, Option.getD_none, Op.operands, Call.operands, V.idsL, V.ids, idsL_t, List.append_nil, List.nil_append, List.cons_append, List.toList_toArray, List.map_toArray, List.size_toArray, List.append_toArray, ev_tmp, ev_const, ev_func, upd_at, slots_cons, slots_nil, objs_cons, objs_nil, Nat.reduceLT, Nat.reduceEqDiff, Nat.reduceAdd, reduceIte, if_true, if_false, ofVal, ofS, noOb, reduceCtorEq, List.take_succ_cons, List.take_zero, List.drop_succ_cons, List.drop_zero, List.take_nil, List.drop_nil, List.nil_append, List.cons_append, List.append_nil, List.length_cons, List.length_nil, List.head?_cons, List.map_cons, List.map_nil, Nat.reduceAdd, Nat.zero_add, List.length_map, hgl, hgr, Core.row_len, Core.take, List.length_map]; rfl) ?_
          refine k_nilD (by simp only [List.reverse_cons, List.reverse_nil, List.nil_append, List.cons_append]; kernel_rfl) ?_
          refine k_seq ?_
          refine awp_cond rfl (fun hc => ?_) (fun hc => ?_)
          · have hne : eqb kids z_kids = false := (eqb_not _ _).2 (fun e => by subst e; simp [eqb] at hc)
            refine awp_seq ?_
            refine awp_region ?_
            refine r_assign rfl (by conv => lhs; whnf) rfl ?_
            refine k_nil ?_
            refine k_seq ?_
            refine awp_ret ?_
            refine k_blk_ret ?_
            refine k_seq_ret ?_
            refine k_rnd_ret ?_
            refine k_blk_ret ?_
            refine k_seq_ret ?_
            refine k_fin ?_
            refine ends_pure [] (by simp only [Try.results18, resOf, hgl, hgr, Core.row_len, Core.take, List.length_map, ev_tmp, ev_const, ev_func, upd_at, slots_cons, slots_nil, objs_cons, objs_nil, Nat.reduceLT, Nat.reduceEqDiff, Nat.reduceAdd, reduceIte, if_true, if_false, ofVal, ofS, noOb, reduceCtorEq]; rfl) (by rw [hne]; exact ⟨give_id _, trivial⟩) (by simp [V.idsL, V.ids])
          · have he : kids[j] = z_kids[j] := by simpa [eqb] using hc
            refine awp_skip ?_
            refine k_blk ?_
            refine k_seq ?_
            refine awp_region ?_
            refine r_move rfl (by conv => lhs; whnf) rfl ?_
            refine r_bin rfl (by conv => lhs; whnf) (by conv => lhs; whnf) (by simp only [hgl, hgr, Core.row_len, Core.take, List.length_map, abin, reduceIte, ne_eq, decide_not, Bool.not_true, Bool.not_false]; rfl) rfl ?_
            refine r_assign rfl (by conv => lhs; whnf) rfl ?_
            refine k_nil ?_
            refine k_rnd (j + 1) ⟨hlt, by rw [List.take_succ_eq_append_getElem hlt, List.take_succ_eq_append_getElem hlt2, htk, he]⟩ (by show kids.length - (j + 1) < kids.length - j; omega) (by repeat (first | exact off_frame _ _ _ | exact off_refl _ _ | refine off_upd rfl ?_ | refine off_sub rfl ?_)) (by repeat (first | exact off_frame _ _ _ | exact off_refl _ _ | refine off_upd rfl ?_ | refine off_sub rfl ?_)) (hasF_cons (by conv => lhs; whnf) (by rw [hw1]; push_cast; rfl) (by first | rfl | simp [V.ids, V.idsL, idsL_t, Ob.ids]) trivial) trivial
        · have hje : j = kids.length := by have := of_decide_eq_false hc; omega
          have he : eqb kids z_kids = true := (eqb_iff _ _).2 (by rw [hje, List.take_length, hlen, List.take_length] at htk; exact htk)
          refine awp_exit ?_
          refine k_seq_exit ?_
          refine k_rnd_exit ?_
          refine k_blk_exit ?_
          refine k_seq ?_
          refine awp_seq ?_
          refine awp_region ?_
          refine r_assign rfl (by conv => lhs; whnf) rfl ?_
          refine k_nil ?_
          refine k_seq ?_
          refine awp_ret ?_
          refine k_fin ?_
          refine ends_pure [] (by simp only [Try.results18, resOf, List.length_map, ev_tmp, ev_const, ev_func, upd_at, slots_cons, slots_nil, objs_cons, objs_nil, Nat.reduceLT, Nat.reduceEqDiff, Nat.reduceAdd, reduceIte, if_true, if_false, ofVal, ofS, noOb, reduceCtorEq]; rfl) (by rw [he]; exact ⟨give_id _, trivial⟩) (by simp [V.idsL, V.ids])
    · rw [hg1]
      refine r_fieldAddr rfl yF29_1e (by conv => lhs; whnf) (by conv => lhs; whnf) rfl ?_
      refine r_load1 rfl yA3e (by conv => lhs; whnf) (by conv => lhs; whnf) (by (try simp only [List.take_succ_cons, List.take_zero, List.drop_succ_cons, List.drop_zero, List.take_nil, List.drop_nil, List.nil_append, List.cons_append, List.append_nil, List.length_cons, List.length_nil, List.head?_cons, List.map_cons, List.map_nil, Nat.reduceAdd, Nat.zero_add, List.length_map]); rfl) rfl ?_
      refine r_fieldAddr rfl yF29_1e (by conv => lhs; whnf) (by conv => lhs; whnf) rfl ?_
      refine r_load1 rfl yA3e (by conv => lhs; whnf) (by conv => lhs; whnf) (by (try simp only [List.take_succ_cons, List.take_zero, List.drop_succ_cons, List.drop_zero, List.take_nil, List.drop_nil, List.nil_append, List.cons_append, List.append_nil, List.length_cons, List.length_nil, List.head?_cons, List.map_cons, List.map_nil, Nat.reduceAdd, Nat.zero_add, List.length_map]); rfl) rfl ?_
      refine r_bin rfl (by conv => lhs; whnf) (by conv => lhs; whnf) (by simp only [abin, reduceIte, ne_eq, decide_not, Bool.not_true, Bool.not_false]; rfl) rfl ?_
      refine r_pick rfl (by conv => lhs; whnf) (by conv => lhs; whnf) rfl ?_
      refine r_move rfl (by conv => lhs; whnf) rfl ?_
      refine g_split (d := 18) (by conv => lhs; whnf) (fun hg3 => ?_) (fun hg3 => ?_)
      · rw [hg3]
        refine r_no rfl ?_
        refine r_no rfl ?_
        refine r_no rfl ?_
        refine r_no rfl ?_
        refine r_no rfl ?_
        refine r_pick rfl (by conv => lhs; whnf) (by conv => lhs; whnf) rfl ?_
        refine r_move rfl (by conv => lhs; whnf) rfl ?_
        refine r_no rfl ?_
        refine r_no rfl ?_
        refine r_no rfl ?_
        refine r_no rfl ?_
        refine r_no rfl ?_
        refine r_pick rfl (by conv => lhs; whnf) (by conv => lhs; whnf) rfl ?_
        refine r_move rfl (by conv => lhs; whnf) rfl ?_
        refine r_no rfl ?_
        refine r_no rfl ?_
        refine r_no rfl ?_
        refine r_no rfl ?_
        refine r_no rfl ?_
        refine r_no rfl ?_
        refine r_pick rfl (by conv => lhs; whnf) (by conv => lhs; whnf) rfl ?_
        refine r_move rfl (by conv => lhs; whnf) rfl ?_
        refine r_no rfl ?_
        refine r_no rfl ?_
        refine r_no rfl ?_
        refine r_no rfl ?_
        refine r_no rfl ?_
        refine r_no rfl ?_
        refine r_pick rfl (by conv => lhs; whnf) (by conv => lhs; whnf) rfl ?_
        refine r_move rfl (by conv => lhs; whnf) rfl ?_
        refine r_no rfl ?_
        refine r_no rfl ?_
        refine r_no rfl ?_
        refine r_no rfl ?_
        refine r_no rfl ?_
        refine r_no rfl ?_
        refine r_no rfl ?_
        refine r_pick rfl (by conv => lhs; whnf) (by conv => lhs; whnf) rfl ?_
        refine k_nil ?_
        refine k_seq ?_
        refine awp_cond rfl (fun hg4 => ?_) (fun hg4 => ?_)
        · refine awp_seq ?_
          refine awp_region ?_
          refine r_assign rfl (by conv => lhs; whnf) rfl ?_
          refine k_nil ?_
          refine k_seq ?_
          refine awp_ret ?_
          refine k_seq_ret ?_
          refine k_fin ?_
          refine ends_pure [] (by simp only [Try.results18, resOf, ev_tmp, ev_const, ev_func, upd_at, slots_cons, slots_nil, objs_cons, objs_nil, Nat.reduceLT, Nat.reduceEqDiff, Nat.reduceAdd, reduceIte, if_true, if_false, ofVal, ofS, noOb, reduceCtorEq]; rfl) (by
            refine ⟨.inl (congrArg (fun b => V.t (.sc (.bool b))) ?_), trivial⟩
            rw [Bool.eq_iff_iff]
            simp only [eqb_iff, Bool.false_eq_true, decide_eq_true_eq, Core.mk.injEq, Form.mk.injEq, Step.mk.injEq, Bind.mk.injEq, Hit.mk.injEq, Rule.mk.injEq, Macro.mk.injEq, Expansion.mk.injEq]
            simp_all [eqb_iff, eqb_not, -List.map_inj_left] <;> (try (intro e; subst e; simp_all))) (by simp [V.idsL, V.ids])
        · refine awp_skip ?_
          refine k_seq ?_
          refine awp_seq ?_
          refine awp_seq ?_
          refine awp_region ?_
          refine r_assign rfl (by conv => lhs; whnf) rfl ?_
          refine k_nil ?_
          refine k_seq ?_
          refine awp_block ?_
          have hAll : kind = z_kind ∧ id = z_id ∧ name = z_name ∧ n = z_n ∧ ids = z_ids ∧ data_kind = z_data_kind ∧ data_name = z_data_name ∧ data_n = z_data_n ∧ data_scopes = z_data_scopes ∧ data_kids = z_data_kids ∧ kids.length = z_kids.length := by simp_all [eqb_iff, eqb_not] <;> omega
          obtain ⟨rfl, rfl, rfl, rfl, rfl, rfl, rfl, rfl, rfl, rfl, hlen⟩ := hAll
          skip
          have hred : eqb (Core.mk kind id name n ids (Form.mk data_kind data_name data_n data_scopes data_kids) kids) (Core.mk kind id name n ids (Form.mk data_kind data_name data_n data_scopes data_kids) z_kids) = eqb kids z_kids := by rw [Bool.eq_iff_iff]; simp [eqb_iff]
          rw [hred]
          refine awp_frame [4, 5, 57, 58, 59, 60, 61, 62, 63, 64, 65, 66, 67, 68, 69, 70, 71, 72, 73, 74, 75] [] [] (fun j : Nat => kids.length - j) (fun j : Nat => [(5, vi j)]) (fun j : Nat => []) (fun j => j ≤ kids.length ∧ kids.take j = z_kids.take j) 0 ⟨Nat.zero_le _, by simp⟩ (by rfl) (by rfl) (fun _ => rfl) (hasF_cons (by conv => lhs; whnf) (by first | rfl | simp) (by first | rfl | simp [V.ids, V.idsL, idsL_t, Ob.ids]) trivial) trivial ?_
          rintro j ⟨hj, htk⟩
          refine awp_seq ?_
          refine awp_seq ?_
          refine awp_region ?_
          refine r_move rfl (by conv => lhs; whnf) rfl ?_
          refine r_fieldAddr rfl yF29_6e (by conv => lhs; whnf) (by conv => lhs; whnf) rfl ?_
          refine r_load1 rfl yA27e (by conv => lhs; whnf) (by conv => lhs; whnf) (by (try simp only [List.length_map, List.take_succ_cons, List.take_zero, List.drop_succ_cons, List.drop_zero, List.take_nil, List.drop_nil, List.nil_append, List.cons_append, List.append_nil, List.length_cons, List.length_nil, List.head?_cons, List.map_cons, List.map_nil, Nat.reduceAdd, Nat.zero_add, List.length_map]); rfl) rfl ?_
          refine r_len rfl yU27e (by conv => lhs; whnf) (by conv => lhs; whnf) rfl ?_
          refine r_bin rfl (by conv => lhs; whnf) (by conv => lhs; whnf) (by simp only [List.length_map, abin, reduceIte, ne_eq, decide_not, Bool.not_true, Bool.not_false]; rfl) rfl ?_
          refine k_nil ?_
          refine k_seq ?_
          refine awp_cond rfl (fun hc => ?_) (fun hc => ?_)
          · have hlt : j < kids.length := by have := of_decide_eq_true hc; omega
            have hlt2 : j < z_kids.length := by omega
            have hgl := map_get Core.row kids j hlt
            have hgr := map_get Core.row z_kids j hlt2
            have hw1 := IntWalk.i64_in ((j : Int) + 1) (by omega)
            clear hc
            have hle := T.wtR_le Core.row kids (j + 1)
            have hsucc := T.wtR_succ Core.row kids j hlt
            have hle2 := T.wtR_le Core.row z_kids (j + 1)
            have hsucc2 := T.wtR_succ Core.row z_kids j hlt2
            have hmem : kids[j] ∈ kids := List.getElem_mem hlt
            have hkid := specCoreSame_ok kids[j] z_kids[j] (by omega) (by omega)
            refine awp_skip ?_
            refine k_seq ?_
            refine awp_seq ?_
            refine awp_block ?_
            refine awp_seq ?_
            refine awp_draw yMixe (by kernel_rfl) ?_
            refine r_fieldAddr rfl yF29_6e (by conv => lhs; whnf) (by conv => lhs; whnf) (by simp only [fpOf, idOf, Option.getD_some, Option.getD_none, Op.operands, Call.operands, V.idsL, V.ids, idsL_t, List.append_nil, List.nil_append, List.cons_append, List.toList_toArray, List.map_toArray, List.size_toArray, List.append_toArray, ev_tmp, ev_const, ev_func, upd_at, slots_cons, slots_nil, objs_cons, objs_nil, Nat.reduceLT, Nat.reduceEqDiff, Nat.reduceAdd, reduceIte, if_true, if_false, ofVal, ofS, noOb, reduceCtorEq, List.take_succ_cons, List.take_zero, List.drop_succ_cons, List.drop_zero, List.take_nil, List.drop_nil, List.nil_append, List.cons_append, List.append_nil, List.length_cons, List.length_nil, List.head?_cons, List.map_cons, List.map_nil, Nat.reduceAdd, Nat.zero_add, List.length_map, hgl, hgr, Core.row_len, Core.take, List.length_map]; rfl) ?_
            refine r_load1 rfl yA27e (by conv => lhs; whnf) (by conv => lhs; whnf) (by (try simp only [hgl, hgr, Core.row_len, Core.take, List.length_map, List.take_succ_cons, List.take_zero, List.drop_succ_cons, List.drop_zero, List.take_nil, List.drop_nil, List.nil_append, List.cons_append, List.append_nil, List.length_cons, List.length_nil, List.head?_cons, List.map_cons, List.map_nil, Nat.reduceAdd, Nat.zero_add, List.length_map]); rfl) (by simp only [fpOf, idOf, Option.getD_some, Option.getD_none, Op.operands, Call.operands, V.idsL, V.ids, idsL_t, List.append_nil, List.nil_append, List.cons_append, List.toList_toArray, List.map_toArray, List.size_toArray, List.append_toArray, ev_tmp, ev_const, ev_func, upd_at, slots_cons, slots_nil, objs_cons, objs_nil, Nat.reduceLT, Nat.reduceEqDiff, Nat.reduceAdd, reduceIte, if_true, if_false, ofVal, ofS, noOb, reduceCtorEq, List.take_succ_cons, List.take_zero, List.drop_succ_cons, List.drop_zero, List.take_nil, List.drop_nil, List.nil_append, List.cons_append, List.append_nil, List.length_cons, List.length_nil, List.head?_cons, List.map_cons, List.map_nil, Nat.reduceAdd, Nat.zero_add, List.length_map, hgl, hgr, Core.row_len, Core.take, List.length_map]; rfl) ?_
            refine r_move rfl (by conv => lhs; whnf) (by simp only [fpOf, idOf, Option.getD_some, Option.getD_none, Op.operands, Call.operands, V.idsL, V.ids, idsL_t, List.append_nil, List.nil_append, List.cons_append, List.toList_toArray, List.map_toArray, List.size_toArray, List.append_toArray, ev_tmp, ev_const, ev_func, upd_at, slots_cons, slots_nil, objs_cons, objs_nil, Nat.reduceLT, Nat.reduceEqDiff, Nat.reduceAdd, reduceIte, if_true, if_false, ofVal, ofS, noOb, reduceCtorEq, List.take_succ_cons, List.take_zero, List.drop_succ_cons, List.drop_zero, List.take_nil, List.drop_nil, List.nil_append, List.cons_append, List.append_nil, List.length_cons, List.length_nil, List.head?_cons, List.map_cons, List.map_nil, Nat.reduceAdd, Nat.zero_add, List.length_map, hgl, hgr, Core.row_len, Core.take, List.length_map]; rfl) ?_
            refine r_indexAddr rfl yE27e (by conv => lhs; whnf) (by conv => lhs; whnf) (by omega) (by simp only [hgl, hgr, Core.row_len, Core.take, List.length_map, indexP, ev_tmp, ev_const, ev_func, upd_at, slots_cons, slots_nil, objs_cons, objs_nil, Nat.reduceLT, Nat.reduceEqDiff, Nat.reduceAdd, reduceIte, if_true, if_false, ofVal, ofS, noOb, reduceCtorEq]; rfl) (by simp only [fpOf, idOf, Option.getD_some, Option.getD_none, Op.operands, Call.operands, V.idsL, V.ids, idsL_t, List.append_nil, List.nil_append, List.cons_append, List.toList_toArray, List.map_toArray, List.size_toArray, List.append_toArray, ev_tmp, ev_const, ev_func, upd_at, slots_cons, slots_nil, objs_cons, objs_nil, Nat.reduceLT, Nat.reduceEqDiff, Nat.reduceAdd, reduceIte, if_true, if_false, ofVal, ofS, noOb, reduceCtorEq, List.take_succ_cons, List.take_zero, List.drop_succ_cons, List.drop_zero, List.take_nil, List.drop_nil, List.nil_append, List.cons_append, List.append_nil, List.length_cons, List.length_nil, List.head?_cons, List.map_cons, List.map_nil, Nat.reduceAdd, Nat.zero_add, List.length_map, hgl, hgr, Core.row_len, Core.take, List.length_map]; rfl) ?_
            refine r_loadN rfl yA29e yS29e (by conv => lhs; whnf) (by conv => lhs; whnf) (by simp only [hgl, hgr, Core.row_len, Core.take, List.length_map, List.take_succ_cons, List.take_zero, List.drop_succ_cons, List.drop_zero, List.take_nil, List.drop_nil, List.nil_append, List.cons_append, List.append_nil, List.length_cons, List.length_nil, List.head?_cons, List.map_cons, List.map_nil, Nat.reduceAdd, Nat.zero_add, List.length_map]; omega) (by (try simp only [hgl, hgr, Core.row_len, Core.take, List.length_map, List.take_succ_cons, List.take_zero, List.drop_succ_cons, List.drop_zero, List.take_nil, List.drop_nil, List.nil_append, List.cons_append, List.append_nil, List.length_cons, List.length_nil, List.head?_cons, List.map_cons, List.map_nil, Nat.reduceAdd, Nat.zero_add, List.length_map]); rfl) (by simp only [fpOf, idOf, Option.getD_some, Option.getD_none, Op.operands, Call.operands, V.idsL, V.ids, idsL_t, List.append_nil, List.nil_append, List.cons_append, List.toList_toArray, List.map_toArray, List.size_toArray, List.append_toArray, ev_tmp, ev_const, ev_func, upd_at, slots_cons, slots_nil, objs_cons, objs_nil, Nat.reduceLT, Nat.reduceEqDiff, Nat.reduceAdd, reduceIte, if_true, if_false, ofVal, ofS, noOb, reduceCtorEq, List.take_succ_cons, List.take_zero, List.drop_succ_cons, List.drop_zero, List.take_nil, List.drop_nil, List.nil_append, List.cons_append, List.append_nil, List.length_cons, List.length_nil, List.head?_cons, List.map_cons, List.map_nil, Nat.reduceAdd, Nat.zero_add, List.length_map, hgl, hgr, Core.row_len, Core.take, List.length_map]; rfl) ?_
            refine r_fieldAddr rfl yF29_6e (by conv => lhs; whnf) (by conv => lhs; whnf) (by simp only [fpOf, idOf, Option.getD_some, Option.getD_none, Op.operands, Call.operands, V.idsL, V.ids, idsL_t, List.append_nil, List.nil_append, List.cons_append, List.toList_toArray, List.map_toArray, List.size_toArray, List.append_toArray, ev_tmp, ev_const, ev_func, upd_at, slots_cons, slots_nil, objs_cons, objs_nil, Nat.reduceLT, Nat.reduceEqDiff, Nat.reduceAdd, reduceIte, if_true, if_false, ofVal, ofS, noOb, reduceCtorEq, List.take_succ_cons, List.take_zero, List.drop_succ_cons, List.drop_zero, List.take_nil, List.drop_nil, List.nil_append, List.cons_append, List.append_nil, List.length_cons, List.length_nil, List.head?_cons, List.map_cons, List.map_nil, Nat.reduceAdd, Nat.zero_add, List.length_map, hgl, hgr, Core.row_len, Core.take, List.length_map]; rfl) ?_
            refine r_load1 rfl yA27e (by conv => lhs; whnf) (by conv => lhs; whnf) (by (try simp only [hgl, hgr, Core.row_len, Core.take, List.length_map, List.take_succ_cons, List.take_zero, List.drop_succ_cons, List.drop_zero, List.take_nil, List.drop_nil, List.nil_append, List.cons_append, List.append_nil, List.length_cons, List.length_nil, List.head?_cons, List.map_cons, List.map_nil, Nat.reduceAdd, Nat.zero_add, List.length_map]); rfl) (by simp only [fpOf, idOf, Option.getD_some, Option.getD_none, Op.operands, Call.operands, V.idsL, V.ids, idsL_t, List.append_nil, List.nil_append, List.cons_append, List.toList_toArray, List.map_toArray, List.size_toArray, List.append_toArray, ev_tmp, ev_const, ev_func, upd_at, slots_cons, slots_nil, objs_cons, objs_nil, Nat.reduceLT, Nat.reduceEqDiff, Nat.reduceAdd, reduceIte, if_true, if_false, ofVal, ofS, noOb, reduceCtorEq, List.take_succ_cons, List.take_zero, List.drop_succ_cons, List.drop_zero, List.take_nil, List.drop_nil, List.nil_append, List.cons_append, List.append_nil, List.length_cons, List.length_nil, List.head?_cons, List.map_cons, List.map_nil, Nat.reduceAdd, Nat.zero_add, List.length_map, hgl, hgr, Core.row_len, Core.take, List.length_map]; rfl) ?_
            refine r_move rfl (by conv => lhs; whnf) (by simp only [fpOf, idOf, Option.getD_some, Option.getD_none, Op.operands, Call.operands, V.idsL, V.ids, idsL_t, List.append_nil, List.nil_append, List.cons_append, List.toList_toArray, List.map_toArray, List.size_toArray, List.append_toArray, ev_tmp, ev_const, ev_func, upd_at, slots_cons, slots_nil, objs_cons, objs_nil, Nat.reduceLT, Nat.reduceEqDiff, Nat.reduceAdd, reduceIte, if_true, if_false, ofVal, ofS, noOb, reduceCtorEq, List.take_succ_cons, List.take_zero, List.drop_succ_cons, List.drop_zero, List.take_nil, List.drop_nil, List.nil_append, List.cons_append, List.append_nil, List.length_cons, List.length_nil, List.head?_cons, List.map_cons, List.map_nil, Nat.reduceAdd, Nat.zero_add, List.length_map, hgl, hgr, Core.row_len, Core.take, List.length_map]; rfl) ?_
            refine r_indexAddr rfl yE27e (by conv => lhs; whnf) (by conv => lhs; whnf) (by omega) (by simp only [hgl, hgr, Core.row_len, Core.take, List.length_map, indexP, ev_tmp, ev_const, ev_func, upd_at, slots_cons, slots_nil, objs_cons, objs_nil, Nat.reduceLT, Nat.reduceEqDiff, Nat.reduceAdd, reduceIte, if_true, if_false, ofVal, ofS, noOb, reduceCtorEq]; rfl) (by simp only [fpOf, idOf, Option.getD_some, Option.getD_none, Op.operands, Call.operands, V.idsL, V.ids, idsL_t, List.append_nil, List.nil_append, List.cons_append, List.toList_toArray, List.map_toArray, List.size_toArray, List.append_toArray, ev_tmp, ev_const, ev_func, upd_at, slots_cons, slots_nil, objs_cons, objs_nil, Nat.reduceLT, Nat.reduceEqDiff, Nat.reduceAdd, reduceIte, if_true, if_false, ofVal, ofS, noOb, reduceCtorEq, List.take_succ_cons, List.take_zero, List.drop_succ_cons, List.drop_zero, List.take_nil, List.drop_nil, List.nil_append, List.cons_append, List.append_nil, List.length_cons, List.length_nil, List.head?_cons, List.map_cons, List.map_nil, Nat.reduceAdd, Nat.zero_add, List.length_map, hgl, hgr, Core.row_len, Core.take, List.length_map]; rfl) ?_
            refine r_loadN rfl yA29e yS29e (by conv => lhs; whnf) (by conv => lhs; whnf) (by simp only [hgl, hgr, Core.row_len, Core.take, List.length_map, List.take_succ_cons, List.take_zero, List.drop_succ_cons, List.drop_zero, List.take_nil, List.drop_nil, List.nil_append, List.cons_append, List.append_nil, List.length_cons, List.length_nil, List.head?_cons, List.map_cons, List.map_nil, Nat.reduceAdd, Nat.zero_add, List.length_map]; omega) (by (try simp only [hgl, hgr, Core.row_len, Core.take, List.length_map, List.take_succ_cons, List.take_zero, List.drop_succ_cons, List.drop_zero, List.take_nil, List.drop_nil, List.nil_append, List.cons_append, List.append_nil, List.length_cons, List.length_nil, List.head?_cons, List.map_cons, List.map_nil, Nat.reduceAdd, Nat.zero_add, List.length_map]); rfl) (by simp only [fpOf, idOf, Option.getD_some, Option.getD_none, Op.operands, Call.operands, V.idsL, V.ids, idsL_t, List.append_nil, List.nil_append, List.cons_append, List.toList_toArray, List.map_toArray, List.size_toArray, List.append_toArray, ev_tmp, ev_const, ev_func, upd_at, slots_cons, slots_nil, objs_cons, objs_nil, Nat.reduceLT, Nat.reduceEqDiff, Nat.reduceAdd, reduceIte, if_true, if_false, ofVal, ofS, noOb, reduceCtorEq, List.take_succ_cons, List.take_zero, List.drop_succ_cons, List.drop_zero, List.take_nil, List.drop_nil, List.nil_append, List.cons_append, List.append_nil, List.length_cons, List.length_nil, List.head?_cons, List.map_cons, List.map_nil, Nat.reduceAdd, Nat.zero_add, List.length_map, hgl, hgr, Core.row_len, Core.take, List.length_map]; rfl) ?_
            refine r_pure [] rfl rfl rfl (by conv => lhs; whnf) (by simp only [hgl, hgr, Core.row_len, Core.take, List.length_map, ev_tmp, ev_const, ev_func, upd_at, slots_cons, slots_nil, objs_cons, objs_nil, Nat.reduceLT, Nat.reduceEqDiff, Nat.reduceAdd, reduceIte, if_true, if_false, ofVal, ofS, noOb, reduceCtorEq, List.take_succ_cons, List.take_zero, List.drop_succ_cons, List.drop_zero, List.take_nil, List.drop_nil, List.nil_append, List.cons_append, List.append_nil, List.length_cons, List.length_nil, List.head?_cons, List.map_cons, List.map_nil, Nat.reduceAdd, Nat.zero_add, List.length_map, List.toList_toArray]; rfl) (by simp only [hgl, hgr, Core.row_len, Core.take, List.length_map, fzU, ev_tmp, ev_const, ev_func, upd_at, slots_cons, slots_nil, objs_cons, objs_nil, Nat.reduceLT, Nat.reduceEqDiff, Nat.reduceAdd, reduceIte, if_true, if_false, ofVal, ofS, noOb, reduceCtorEq]; rfl) (by simp only [app]; rfl) (hkid) (by exact ⟨(by first | exact pass_id rfl | exact pass_id (ids_row _) | exact .inr (.inl ⟨_, rfl, rfl, by simp [fz]⟩) | exact .inr (.inr ⟨_, _, rfl, rfl, rfl, by simp [fz]⟩)), (by first | exact pass_id rfl | exact pass_id (ids_row _) | exact .inr (.inl ⟨_, rfl, rfl, by simp [fz]⟩) | exact .inr (.inr ⟨_, _, rfl, rfl, rfl, by simp [fz]⟩)), trivial⟩) (by simp only [fpOf, Op.operands, Call.operands, V.idsL, V.ids, idsL_t, List.append_nil, List.nil_append, List.cons_append, List.map_toArray, List.append_toArray, hgl, hgr, Core.row_len, Core.take, List.length_map, ev_tmp, ev_const, ev_func, upd_at, slots_cons, slots_nil, objs_cons, objs_nil, Nat.reduceLT, Nat.reduceEqDiff, Nat.reduceAdd, reduceIte, if_true, if_false, ofVal, ofS, noOb, reduceCtorEq, List.take_succ_cons, List.take_zero, List.drop_succ_cons, List.drop_zero, List.take_nil, List.drop_nil, List.nil_append, List.cons_append, List.append_nil, List.length_cons, List.length_nil, List.head?_cons, List.map_cons, List.map_nil, Nat.reduceAdd, Nat.zero_add, List.length_map]; rfl) ?_
            refine r_un rfl (by conv => lhs; whnf) (by conv => lhs; whnf) (by simp only [fpOf, idOf, Option.getD_some, Option.getD_none, Op.operands, Call.operands, V.idsL, V.ids, idsL_t, List.append_nil, List.nil_append, List.cons_append, List.toList_toArray, List.map_toArray, List.size_toArray, List.append_toArray, ev_tmp, ev_const, ev_func, upd_at, slots_cons, slots_nil, objs_cons, objs_nil, Nat.reduceLT, Nat.reduceEqDiff, Nat.reduceAdd, reduceIte, if_true, if_false, ofVal, ofS, noOb, reduceCtorEq, List.take_succ_cons, List.take_zero, List.drop_succ_cons, List.drop_zero, List.take_nil, List.drop_nil, List.nil_append, List.cons_append, List.append_nil, List.length_cons, List.length_nil, List.head?_cons, List.map_cons, List.map_nil, Nat.reduceAdd, Nat.zero_add, List.length_map, hgl, hgr, Core.row_len, Core.take, List.length_map]; rfl) ?_
            refine k_nilD (by simp only [List.reverse_cons, List.reverse_nil, List.nil_append, List.cons_append]; kernel_rfl) ?_
            refine k_seq ?_
            refine awp_cond rfl (fun hc => ?_) (fun hc => ?_)
            · have hne : eqb kids z_kids = false := (eqb_not _ _).2 (fun e => by subst e; simp [eqb] at hc)
              refine awp_seq ?_
              refine awp_region ?_
              refine r_assign rfl (by conv => lhs; whnf) rfl ?_
              refine k_nil ?_
              refine k_seq ?_
              refine awp_ret ?_
              refine k_blk_ret ?_
              refine k_seq_ret ?_
              refine k_rnd_ret ?_
              refine k_blk_ret ?_
              refine k_seq_ret ?_
              refine k_fin ?_
              refine ends_pure [] (by simp only [Try.results18, resOf, hgl, hgr, Core.row_len, Core.take, List.length_map, ev_tmp, ev_const, ev_func, upd_at, slots_cons, slots_nil, objs_cons, objs_nil, Nat.reduceLT, Nat.reduceEqDiff, Nat.reduceAdd, reduceIte, if_true, if_false, ofVal, ofS, noOb, reduceCtorEq]; rfl) (by rw [hne]; exact ⟨give_id _, trivial⟩) (by simp [V.idsL, V.ids])
            · have he : kids[j] = z_kids[j] := by simpa [eqb] using hc
              refine awp_skip ?_
              refine k_blk ?_
              refine k_seq ?_
              refine awp_region ?_
              refine r_move rfl (by conv => lhs; whnf) rfl ?_
              refine r_bin rfl (by conv => lhs; whnf) (by conv => lhs; whnf) (by simp only [hgl, hgr, Core.row_len, Core.take, List.length_map, abin, reduceIte, ne_eq, decide_not, Bool.not_true, Bool.not_false]; rfl) rfl ?_
              refine r_assign rfl (by conv => lhs; whnf) rfl ?_
              refine k_nil ?_
              refine k_rnd (j + 1) ⟨hlt, by rw [List.take_succ_eq_append_getElem hlt, List.take_succ_eq_append_getElem hlt2, htk, he]⟩ (by show kids.length - (j + 1) < kids.length - j; omega) (by repeat (first | exact off_frame _ _ _ | exact off_refl _ _ | refine off_upd rfl ?_ | refine off_sub rfl ?_)) (by repeat (first | exact off_frame _ _ _ | exact off_refl _ _ | refine off_upd rfl ?_ | refine off_sub rfl ?_)) (hasF_cons (by conv => lhs; whnf) (by rw [hw1]; push_cast; rfl) (by first | rfl | simp [V.ids, V.idsL, idsL_t, Ob.ids]) trivial) trivial
          · have hje : j = kids.length := by have := of_decide_eq_false hc; omega
            have he : eqb kids z_kids = true := (eqb_iff _ _).2 (by rw [hje, List.take_length, hlen, List.take_length] at htk; exact htk)
            refine awp_exit ?_
            refine k_seq_exit ?_
            refine k_rnd_exit ?_
            refine k_blk_exit ?_
            refine k_seq ?_
            refine awp_seq ?_
            refine awp_region ?_
            refine r_assign rfl (by conv => lhs; whnf) rfl ?_
            refine k_nil ?_
            refine k_seq ?_
            refine awp_ret ?_
            refine k_fin ?_
            refine ends_pure [] (by simp only [Try.results18, resOf, List.length_map, ev_tmp, ev_const, ev_func, upd_at, slots_cons, slots_nil, objs_cons, objs_nil, Nat.reduceLT, Nat.reduceEqDiff, Nat.reduceAdd, reduceIte, if_true, if_false, ofVal, ofS, noOb, reduceCtorEq]; rfl) (by rw [he]; exact ⟨give_id _, trivial⟩) (by simp [V.idsL, V.ids])
      · rw [hg3]
        refine r_fieldAddr rfl yF29_2e (by conv => lhs; whnf) (by conv => lhs; whnf) rfl ?_
        refine r_load1 rfl yA9e (by conv => lhs; whnf) (by conv => lhs; whnf) (by (try simp only [List.take_succ_cons, List.take_zero, List.drop_succ_cons, List.drop_zero, List.take_nil, List.drop_nil, List.nil_append, List.cons_append, List.append_nil, List.length_cons, List.length_nil, List.head?_cons, List.map_cons, List.map_nil, Nat.reduceAdd, Nat.zero_add, List.length_map]); rfl) rfl ?_
        refine r_fieldAddr rfl yF29_2e (by conv => lhs; whnf) (by conv => lhs; whnf) rfl ?_
        refine r_load1 rfl yA9e (by conv => lhs; whnf) (by conv => lhs; whnf) (by (try simp only [List.take_succ_cons, List.take_zero, List.drop_succ_cons, List.drop_zero, List.take_nil, List.drop_nil, List.nil_append, List.cons_append, List.append_nil, List.length_cons, List.length_nil, List.head?_cons, List.map_cons, List.map_nil, Nat.reduceAdd, Nat.zero_add, List.length_map]); rfl) rfl ?_
        refine r_bin rfl (by conv => lhs; whnf) (by conv => lhs; whnf) (by simp only [abin, reduceIte, ne_eq, decide_not, Bool.not_true, Bool.not_false]; rfl) rfl ?_
        refine r_pick rfl (by conv => lhs; whnf) (by conv => lhs; whnf) rfl ?_
        refine r_move rfl (by conv => lhs; whnf) rfl ?_
        refine g_split (d := 25) (by conv => lhs; whnf) (fun hg5 => ?_) (fun hg5 => ?_)
        · rw [hg5]
          refine r_no rfl ?_
          refine r_no rfl ?_
          refine r_no rfl ?_
          refine r_no rfl ?_
          refine r_no rfl ?_
          refine r_pick rfl (by conv => lhs; whnf) (by conv => lhs; whnf) rfl ?_
          refine r_move rfl (by conv => lhs; whnf) rfl ?_
          refine r_no rfl ?_
          refine r_no rfl ?_
          refine r_no rfl ?_
          refine r_no rfl ?_
          refine r_no rfl ?_
          refine r_no rfl ?_
          refine r_pick rfl (by conv => lhs; whnf) (by conv => lhs; whnf) rfl ?_
          refine r_move rfl (by conv => lhs; whnf) rfl ?_
          refine r_no rfl ?_
          refine r_no rfl ?_
          refine r_no rfl ?_
          refine r_no rfl ?_
          refine r_no rfl ?_
          refine r_no rfl ?_
          refine r_pick rfl (by conv => lhs; whnf) (by conv => lhs; whnf) rfl ?_
          refine r_move rfl (by conv => lhs; whnf) rfl ?_
          refine r_no rfl ?_
          refine r_no rfl ?_
          refine r_no rfl ?_
          refine r_no rfl ?_
          refine r_no rfl ?_
          refine r_no rfl ?_
          refine r_no rfl ?_
          refine r_pick rfl (by conv => lhs; whnf) (by conv => lhs; whnf) rfl ?_
          refine k_nil ?_
          refine k_seq ?_
          refine awp_cond rfl (fun hg6 => ?_) (fun hg6 => ?_)
          · refine awp_seq ?_
            refine awp_region ?_
            refine r_assign rfl (by conv => lhs; whnf) rfl ?_
            refine k_nil ?_
            refine k_seq ?_
            refine awp_ret ?_
            refine k_seq_ret ?_
            refine k_fin ?_
            refine ends_pure [] (by simp only [Try.results18, resOf, ev_tmp, ev_const, ev_func, upd_at, slots_cons, slots_nil, objs_cons, objs_nil, Nat.reduceLT, Nat.reduceEqDiff, Nat.reduceAdd, reduceIte, if_true, if_false, ofVal, ofS, noOb, reduceCtorEq]; rfl) (by
              refine ⟨.inl (congrArg (fun b => V.t (.sc (.bool b))) ?_), trivial⟩
              rw [Bool.eq_iff_iff]
              simp only [eqb_iff, Bool.false_eq_true, decide_eq_true_eq, Core.mk.injEq, Form.mk.injEq, Step.mk.injEq, Bind.mk.injEq, Hit.mk.injEq, Rule.mk.injEq, Macro.mk.injEq, Expansion.mk.injEq]
              simp_all [eqb_iff, eqb_not, -List.map_inj_left] <;> (try (intro e; subst e; simp_all))) (by simp [V.idsL, V.ids])
          · refine awp_skip ?_
            refine k_seq ?_
            refine awp_seq ?_
            refine awp_seq ?_
            refine awp_region ?_
            refine r_assign rfl (by conv => lhs; whnf) rfl ?_
            refine k_nil ?_
            refine k_seq ?_
            refine awp_block ?_
            have hAll : kind = z_kind ∧ id = z_id ∧ name = z_name ∧ n = z_n ∧ ids = z_ids ∧ data_kind = z_data_kind ∧ data_name = z_data_name ∧ data_n = z_data_n ∧ data_scopes = z_data_scopes ∧ data_kids = z_data_kids ∧ kids.length = z_kids.length := by simp_all [eqb_iff, eqb_not] <;> omega
            obtain ⟨rfl, rfl, rfl, rfl, rfl, rfl, rfl, rfl, rfl, rfl, hlen⟩ := hAll
            skip
            have hred : eqb (Core.mk kind id name n ids (Form.mk data_kind data_name data_n data_scopes data_kids) kids) (Core.mk kind id name n ids (Form.mk data_kind data_name data_n data_scopes data_kids) z_kids) = eqb kids z_kids := by rw [Bool.eq_iff_iff]; simp [eqb_iff]
            rw [hred]
            refine awp_frame [4, 5, 57, 58, 59, 60, 61, 62, 63, 64, 65, 66, 67, 68, 69, 70, 71, 72, 73, 74, 75] [] [] (fun j : Nat => kids.length - j) (fun j : Nat => [(5, vi j)]) (fun j : Nat => []) (fun j => j ≤ kids.length ∧ kids.take j = z_kids.take j) 0 ⟨Nat.zero_le _, by simp⟩ (by rfl) (by rfl) (fun _ => rfl) (hasF_cons (by conv => lhs; whnf) (by first | rfl | simp) (by first | rfl | simp [V.ids, V.idsL, idsL_t, Ob.ids]) trivial) trivial ?_
            rintro j ⟨hj, htk⟩
            refine awp_seq ?_
            refine awp_seq ?_
            refine awp_region ?_
            refine r_move rfl (by conv => lhs; whnf) rfl ?_
            refine r_fieldAddr rfl yF29_6e (by conv => lhs; whnf) (by conv => lhs; whnf) rfl ?_
            refine r_load1 rfl yA27e (by conv => lhs; whnf) (by conv => lhs; whnf) (by (try simp only [List.length_map, List.take_succ_cons, List.take_zero, List.drop_succ_cons, List.drop_zero, List.take_nil, List.drop_nil, List.nil_append, List.cons_append, List.append_nil, List.length_cons, List.length_nil, List.head?_cons, List.map_cons, List.map_nil, Nat.reduceAdd, Nat.zero_add, List.length_map]); rfl) rfl ?_
            refine r_len rfl yU27e (by conv => lhs; whnf) (by conv => lhs; whnf) rfl ?_
            refine r_bin rfl (by conv => lhs; whnf) (by conv => lhs; whnf) (by simp only [List.length_map, abin, reduceIte, ne_eq, decide_not, Bool.not_true, Bool.not_false]; rfl) rfl ?_
            refine k_nil ?_
            refine k_seq ?_
            refine awp_cond rfl (fun hc => ?_) (fun hc => ?_)
            · have hlt : j < kids.length := by have := of_decide_eq_true hc; omega
              have hlt2 : j < z_kids.length := by omega
              have hgl := map_get Core.row kids j hlt
              have hgr := map_get Core.row z_kids j hlt2
              have hw1 := IntWalk.i64_in ((j : Int) + 1) (by omega)
              clear hc
              have hle := T.wtR_le Core.row kids (j + 1)
              have hsucc := T.wtR_succ Core.row kids j hlt
              have hle2 := T.wtR_le Core.row z_kids (j + 1)
              have hsucc2 := T.wtR_succ Core.row z_kids j hlt2
              have hmem : kids[j] ∈ kids := List.getElem_mem hlt
              have hkid := specCoreSame_ok kids[j] z_kids[j] (by omega) (by omega)
              refine awp_skip ?_
              refine k_seq ?_
              refine awp_seq ?_
              refine awp_block ?_
              refine awp_seq ?_
              refine awp_draw yMixe (by kernel_rfl) ?_
              refine r_fieldAddr rfl yF29_6e (by conv => lhs; whnf) (by conv => lhs; whnf) (by simp only [fpOf, idOf, Option.getD_some, Option.getD_none, Op.operands, Call.operands, V.idsL, V.ids, idsL_t, List.append_nil, List.nil_append, List.cons_append, List.toList_toArray, List.map_toArray, List.size_toArray, List.append_toArray, ev_tmp, ev_const, ev_func, upd_at, slots_cons, slots_nil, objs_cons, objs_nil, Nat.reduceLT, Nat.reduceEqDiff, Nat.reduceAdd, reduceIte, if_true, if_false, ofVal, ofS, noOb, reduceCtorEq, List.take_succ_cons, List.take_zero, List.drop_succ_cons, List.drop_zero, List.take_nil, List.drop_nil, List.nil_append, List.cons_append, List.append_nil, List.length_cons, List.length_nil, List.head?_cons, List.map_cons, List.map_nil, Nat.reduceAdd, Nat.zero_add, List.length_map, hgl, hgr, Core.row_len, Core.take, List.length_map]; rfl) ?_
              refine r_load1 rfl yA27e (by conv => lhs; whnf) (by conv => lhs; whnf) (by (try simp only [hgl, hgr, Core.row_len, Core.take, List.length_map, List.take_succ_cons, List.take_zero, List.drop_succ_cons, List.drop_zero, List.take_nil, List.drop_nil, List.nil_append, List.cons_append, List.append_nil, List.length_cons, List.length_nil, List.head?_cons, List.map_cons, List.map_nil, Nat.reduceAdd, Nat.zero_add, List.length_map]); rfl) (by simp only [fpOf, idOf, Option.getD_some, Option.getD_none, Op.operands, Call.operands, V.idsL, V.ids, idsL_t, List.append_nil, List.nil_append, List.cons_append, List.toList_toArray, List.map_toArray, List.size_toArray, List.append_toArray, ev_tmp, ev_const, ev_func, upd_at, slots_cons, slots_nil, objs_cons, objs_nil, Nat.reduceLT, Nat.reduceEqDiff, Nat.reduceAdd, reduceIte, if_true, if_false, ofVal, ofS, noOb, reduceCtorEq, List.take_succ_cons, List.take_zero, List.drop_succ_cons, List.drop_zero, List.take_nil, List.drop_nil, List.nil_append, List.cons_append, List.append_nil, List.length_cons, List.length_nil, List.head?_cons, List.map_cons, List.map_nil, Nat.reduceAdd, Nat.zero_add, List.length_map, hgl, hgr, Core.row_len, Core.take, List.length_map]; rfl) ?_
              refine r_move rfl (by conv => lhs; whnf) (by simp only [fpOf, idOf, Option.getD_some, Option.getD_none, Op.operands, Call.operands, V.idsL, V.ids, idsL_t, List.append_nil, List.nil_append, List.cons_append, List.toList_toArray, List.map_toArray, List.size_toArray, List.append_toArray, ev_tmp, ev_const, ev_func, upd_at, slots_cons, slots_nil, objs_cons, objs_nil, Nat.reduceLT, Nat.reduceEqDiff, Nat.reduceAdd, reduceIte, if_true, if_false, ofVal, ofS, noOb, reduceCtorEq, List.take_succ_cons, List.take_zero, List.drop_succ_cons, List.drop_zero, List.take_nil, List.drop_nil, List.nil_append, List.cons_append, List.append_nil, List.length_cons, List.length_nil, List.head?_cons, List.map_cons, List.map_nil, Nat.reduceAdd, Nat.zero_add, List.length_map, hgl, hgr, Core.row_len, Core.take, List.length_map]; rfl) ?_
              refine r_indexAddr rfl yE27e (by conv => lhs; whnf) (by conv => lhs; whnf) (by omega) (by simp only [hgl, hgr, Core.row_len, Core.take, List.length_map, indexP, ev_tmp, ev_const, ev_func, upd_at, slots_cons, slots_nil, objs_cons, objs_nil, Nat.reduceLT, Nat.reduceEqDiff, Nat.reduceAdd, reduceIte, if_true, if_false, ofVal, ofS, noOb, reduceCtorEq]; rfl) (by simp only [fpOf, idOf, Option.getD_some, Option.getD_none, Op.operands, Call.operands, V.idsL, V.ids, idsL_t, List.append_nil, List.nil_append, List.cons_append, List.toList_toArray, List.map_toArray, List.size_toArray, List.append_toArray, ev_tmp, ev_const, ev_func, upd_at, slots_cons, slots_nil, objs_cons, objs_nil, Nat.reduceLT, Nat.reduceEqDiff, Nat.reduceAdd, reduceIte, if_true, if_false, ofVal, ofS, noOb, reduceCtorEq, List.take_succ_cons, List.take_zero, List.drop_succ_cons, List.drop_zero, List.take_nil, List.drop_nil, List.nil_append, List.cons_append, List.append_nil, List.length_cons, List.length_nil, List.head?_cons, List.map_cons, List.map_nil, Nat.reduceAdd, Nat.zero_add, List.length_map, hgl, hgr, Core.row_len, Core.take, List.length_map]; rfl) ?_
              refine r_loadN rfl yA29e yS29e (by conv => lhs; whnf) (by conv => lhs; whnf) (by simp only [hgl, hgr, Core.row_len, Core.take, List.length_map, List.take_succ_cons, List.take_zero, List.drop_succ_cons, List.drop_zero, List.take_nil, List.drop_nil, List.nil_append, List.cons_append, List.append_nil, List.length_cons, List.length_nil, List.head?_cons, List.map_cons, List.map_nil, Nat.reduceAdd, Nat.zero_add, List.length_map]; omega) (by (try simp only [hgl, hgr, Core.row_len, Core.take, List.length_map, List.take_succ_cons, List.take_zero, List.drop_succ_cons, List.drop_zero, List.take_nil, List.drop_nil, List.nil_append, List.cons_append, List.append_nil, List.length_cons, List.length_nil, List.head?_cons, List.map_cons, List.map_nil, Nat.reduceAdd, Nat.zero_add, List.length_map]); rfl) (by simp only [fpOf, idOf, Option.getD_some, Option.getD_none, Op.operands, Call.operands, V.idsL, V.ids, idsL_t, List.append_nil, List.nil_append, List.cons_append, List.toList_toArray, List.map_toArray, List.size_toArray, List.append_toArray, ev_tmp, ev_const, ev_func, upd_at, slots_cons, slots_nil, objs_cons, objs_nil, Nat.reduceLT, Nat.reduceEqDiff, Nat.reduceAdd, reduceIte, if_true, if_false, ofVal, ofS, noOb, reduceCtorEq, List.take_succ_cons, List.take_zero, List.drop_succ_cons, List.drop_zero, List.take_nil, List.drop_nil, List.nil_append, List.cons_append, List.append_nil, List.length_cons, List.length_nil, List.head?_cons, List.map_cons, List.map_nil, Nat.reduceAdd, Nat.zero_add, List.length_map, hgl, hgr, Core.row_len, Core.take, List.length_map]; rfl) ?_
              refine r_fieldAddr rfl yF29_6e (by conv => lhs; whnf) (by conv => lhs; whnf) (by simp only [fpOf, idOf, Option.getD_some, Option.getD_none, Op.operands, Call.operands, V.idsL, V.ids, idsL_t, List.append_nil, List.nil_append, List.cons_append, List.toList_toArray, List.map_toArray, List.size_toArray, List.append_toArray, ev_tmp, ev_const, ev_func, upd_at, slots_cons, slots_nil, objs_cons, objs_nil, Nat.reduceLT, Nat.reduceEqDiff, Nat.reduceAdd, reduceIte, if_true, if_false, ofVal, ofS, noOb, reduceCtorEq, List.take_succ_cons, List.take_zero, List.drop_succ_cons, List.drop_zero, List.take_nil, List.drop_nil, List.nil_append, List.cons_append, List.append_nil, List.length_cons, List.length_nil, List.head?_cons, List.map_cons, List.map_nil, Nat.reduceAdd, Nat.zero_add, List.length_map, hgl, hgr, Core.row_len, Core.take, List.length_map]; rfl) ?_
              refine r_load1 rfl yA27e (by conv => lhs; whnf) (by conv => lhs; whnf) (by (try simp only [hgl, hgr, Core.row_len, Core.take, List.length_map, List.take_succ_cons, List.take_zero, List.drop_succ_cons, List.drop_zero, List.take_nil, List.drop_nil, List.nil_append, List.cons_append, List.append_nil, List.length_cons, List.length_nil, List.head?_cons, List.map_cons, List.map_nil, Nat.reduceAdd, Nat.zero_add, List.length_map]); rfl) (by simp only [fpOf, idOf, Option.getD_some, Option.getD_none, Op.operands, Call.operands, V.idsL, V.ids, idsL_t, List.append_nil, List.nil_append, List.cons_append, List.toList_toArray, List.map_toArray, List.size_toArray, List.append_toArray, ev_tmp, ev_const, ev_func, upd_at, slots_cons, slots_nil, objs_cons, objs_nil, Nat.reduceLT, Nat.reduceEqDiff, Nat.reduceAdd, reduceIte, if_true, if_false, ofVal, ofS, noOb, reduceCtorEq, List.take_succ_cons, List.take_zero, List.drop_succ_cons, List.drop_zero, List.take_nil, List.drop_nil, List.nil_append, List.cons_append, List.append_nil, List.length_cons, List.length_nil, List.head?_cons, List.map_cons, List.map_nil, Nat.reduceAdd, Nat.zero_add, List.length_map, hgl, hgr, Core.row_len, Core.take, List.length_map]; rfl) ?_
              refine r_move rfl (by conv => lhs; whnf) (by simp only [fpOf, idOf, Option.getD_some, Option.getD_none, Op.operands, Call.operands, V.idsL, V.ids, idsL_t, List.append_nil, List.nil_append, List.cons_append, List.toList_toArray, List.map_toArray, List.size_toArray, List.append_toArray, ev_tmp, ev_const, ev_func, upd_at, slots_cons, slots_nil, objs_cons, objs_nil, Nat.reduceLT, Nat.reduceEqDiff, Nat.reduceAdd, reduceIte, if_true, if_false, ofVal, ofS, noOb, reduceCtorEq, List.take_succ_cons, List.take_zero, List.drop_succ_cons, List.drop_zero, List.take_nil, List.drop_nil, List.nil_append, List.cons_append, List.append_nil, List.length_cons, List.length_nil, List.head?_cons, List.map_cons, List.map_nil, Nat.reduceAdd, Nat.zero_add, List.length_map, hgl, hgr, Core.row_len, Core.take, List.length_map]; rfl) ?_
              refine r_indexAddr rfl yE27e (by conv => lhs; whnf) (by conv => lhs; whnf) (by omega) (by simp only [hgl, hgr, Core.row_len, Core.take, List.length_map, indexP, ev_tmp, ev_const, ev_func, upd_at, slots_cons, slots_nil, objs_cons, objs_nil, Nat.reduceLT, Nat.reduceEqDiff, Nat.reduceAdd, reduceIte, if_true, if_false, ofVal, ofS, noOb, reduceCtorEq]; rfl) (by simp only [fpOf, idOf, Option.getD_some, Option.getD_none, Op.operands, Call.operands, V.idsL, V.ids, idsL_t, List.append_nil, List.nil_append, List.cons_append, List.toList_toArray, List.map_toArray, List.size_toArray, List.append_toArray, ev_tmp, ev_const, ev_func, upd_at, slots_cons, slots_nil, objs_cons, objs_nil, Nat.reduceLT, Nat.reduceEqDiff, Nat.reduceAdd, reduceIte, if_true, if_false, ofVal, ofS, noOb, reduceCtorEq, List.take_succ_cons, List.take_zero, List.drop_succ_cons, List.drop_zero, List.take_nil, List.drop_nil, List.nil_append, List.cons_append, List.append_nil, List.length_cons, List.length_nil, List.head?_cons, List.map_cons, List.map_nil, Nat.reduceAdd, Nat.zero_add, List.length_map, hgl, hgr, Core.row_len, Core.take, List.length_map]; rfl) ?_
              refine r_loadN rfl yA29e yS29e (by conv => lhs; whnf) (by conv => lhs; whnf) (by simp only [hgl, hgr, Core.row_len, Core.take, List.length_map, List.take_succ_cons, List.take_zero, List.drop_succ_cons, List.drop_zero, List.take_nil, List.drop_nil, List.nil_append, List.cons_append, List.append_nil, List.length_cons, List.length_nil, List.head?_cons, List.map_cons, List.map_nil, Nat.reduceAdd, Nat.zero_add, List.length_map]; omega) (by (try simp only [hgl, hgr, Core.row_len, Core.take, List.length_map, List.take_succ_cons, List.take_zero, List.drop_succ_cons, List.drop_zero, List.take_nil, List.drop_nil, List.nil_append, List.cons_append, List.append_nil, List.length_cons, List.length_nil, List.head?_cons, List.map_cons, List.map_nil, Nat.reduceAdd, Nat.zero_add, List.length_map]); rfl) (by simp only [fpOf, idOf, Option.getD_some, Option.getD_none, Op.operands, Call.operands, V.idsL, V.ids, idsL_t, List.append_nil, List.nil_append, List.cons_append, List.toList_toArray, List.map_toArray, List.size_toArray, List.append_toArray, ev_tmp, ev_const, ev_func, upd_at, slots_cons, slots_nil, objs_cons, objs_nil, Nat.reduceLT, Nat.reduceEqDiff, Nat.reduceAdd, reduceIte, if_true, if_false, ofVal, ofS, noOb, reduceCtorEq, List.take_succ_cons, List.take_zero, List.drop_succ_cons, List.drop_zero, List.take_nil, List.drop_nil, List.nil_append, List.cons_append, List.append_nil, List.length_cons, List.length_nil, List.head?_cons, List.map_cons, List.map_nil, Nat.reduceAdd, Nat.zero_add, List.length_map, hgl, hgr, Core.row_len, Core.take, List.length_map]; rfl) ?_
              refine r_pure [] rfl rfl rfl (by conv => lhs; whnf) (by simp only [hgl, hgr, Core.row_len, Core.take, List.length_map, ev_tmp, ev_const, ev_func, upd_at, slots_cons, slots_nil, objs_cons, objs_nil, Nat.reduceLT, Nat.reduceEqDiff, Nat.reduceAdd, reduceIte, if_true, if_false, ofVal, ofS, noOb, reduceCtorEq, List.take_succ_cons, List.take_zero, List.drop_succ_cons, List.drop_zero, List.take_nil, List.drop_nil, List.nil_append, List.cons_append, List.append_nil, List.length_cons, List.length_nil, List.head?_cons, List.map_cons, List.map_nil, Nat.reduceAdd, Nat.zero_add, List.length_map, List.toList_toArray]; rfl) (by simp only [hgl, hgr, Core.row_len, Core.take, List.length_map, fzU, ev_tmp, ev_const, ev_func, upd_at, slots_cons, slots_nil, objs_cons, objs_nil, Nat.reduceLT, Nat.reduceEqDiff, Nat.reduceAdd, reduceIte, if_true, if_false, ofVal, ofS, noOb, reduceCtorEq]; rfl) (by simp only [app]; rfl) (hkid) (by exact ⟨(by first | exact pass_id rfl | exact pass_id (ids_row _) | exact .inr (.inl ⟨_, rfl, rfl, by simp [fz]⟩) | exact .inr (.inr ⟨_, _, rfl, rfl, rfl, by simp [fz]⟩)), (by first | exact pass_id rfl | exact pass_id (ids_row _) | exact .inr (.inl ⟨_, rfl, rfl, by simp [fz]⟩) | exact .inr (.inr ⟨_, _, rfl, rfl, rfl, by simp [fz]⟩)), trivial⟩) (by simp only [fpOf, Op.operands, Call.operands, V.idsL, V.ids, idsL_t, List.append_nil, List.nil_append, List.cons_append, List.map_toArray, List.append_toArray, hgl, hgr, Core.row_len, Core.take, List.length_map, ev_tmp, ev_const, ev_func, upd_at, slots_cons, slots_nil, objs_cons, objs_nil, Nat.reduceLT, Nat.reduceEqDiff, Nat.reduceAdd, reduceIte, if_true, if_false, ofVal, ofS, noOb, reduceCtorEq, List.take_succ_cons, List.take_zero, List.drop_succ_cons, List.drop_zero, List.take_nil, List.drop_nil, List.nil_append, List.cons_append, List.append_nil, List.length_cons, List.length_nil, List.head?_cons, List.map_cons, List.map_nil, Nat.reduceAdd, Nat.zero_add, List.length_map]; rfl) ?_
              refine r_un rfl (by conv => lhs; whnf) (by conv => lhs; whnf) (by simp only [fpOf, idOf, Option.getD_some, Option.getD_none, Op.operands, Call.operands, V.idsL, V.ids, idsL_t, List.append_nil, List.nil_append, List.cons_append, List.toList_toArray, List.map_toArray, List.size_toArray, List.append_toArray, ev_tmp, ev_const, ev_func, upd_at, slots_cons, slots_nil, objs_cons, objs_nil, Nat.reduceLT, Nat.reduceEqDiff, Nat.reduceAdd, reduceIte, if_true, if_false, ofVal, ofS, noOb, reduceCtorEq, List.take_succ_cons, List.take_zero, List.drop_succ_cons, List.drop_zero, List.take_nil, List.drop_nil, List.nil_append, List.cons_append, List.append_nil, List.length_cons, List.length_nil, List.head?_cons, List.map_cons, List.map_nil, Nat.reduceAdd, Nat.zero_add, List.length_map, hgl, hgr, Core.row_len, Core.take, List.length_map]; rfl) ?_
              refine k_nilD (by simp only [List.reverse_cons, List.reverse_nil, List.nil_append, List.cons_append]; kernel_rfl) ?_
              refine k_seq ?_
              refine awp_cond rfl (fun hc => ?_) (fun hc => ?_)
              · have hne : eqb kids z_kids = false := (eqb_not _ _).2 (fun e => by subst e; simp [eqb] at hc)
                refine awp_seq ?_
                refine awp_region ?_
                refine r_assign rfl (by conv => lhs; whnf) rfl ?_
                refine k_nil ?_
                refine k_seq ?_
                refine awp_ret ?_
                refine k_blk_ret ?_
                refine k_seq_ret ?_
                refine k_rnd_ret ?_
                refine k_blk_ret ?_
                refine k_seq_ret ?_
                refine k_fin ?_
                refine ends_pure [] (by simp only [Try.results18, resOf, hgl, hgr, Core.row_len, Core.take, List.length_map, ev_tmp, ev_const, ev_func, upd_at, slots_cons, slots_nil, objs_cons, objs_nil, Nat.reduceLT, Nat.reduceEqDiff, Nat.reduceAdd, reduceIte, if_true, if_false, ofVal, ofS, noOb, reduceCtorEq]; rfl) (by rw [hne]; exact ⟨give_id _, trivial⟩) (by simp [V.idsL, V.ids])
              · have he : kids[j] = z_kids[j] := by simpa [eqb] using hc
                refine awp_skip ?_
                refine k_blk ?_
                refine k_seq ?_
                refine awp_region ?_
                refine r_move rfl (by conv => lhs; whnf) rfl ?_
                refine r_bin rfl (by conv => lhs; whnf) (by conv => lhs; whnf) (by simp only [hgl, hgr, Core.row_len, Core.take, List.length_map, abin, reduceIte, ne_eq, decide_not, Bool.not_true, Bool.not_false]; rfl) rfl ?_
                refine r_assign rfl (by conv => lhs; whnf) rfl ?_
                refine k_nil ?_
                refine k_rnd (j + 1) ⟨hlt, by rw [List.take_succ_eq_append_getElem hlt, List.take_succ_eq_append_getElem hlt2, htk, he]⟩ (by show kids.length - (j + 1) < kids.length - j; omega) (by repeat (first | exact off_frame _ _ _ | exact off_refl _ _ | refine off_upd rfl ?_ | refine off_sub rfl ?_)) (by repeat (first | exact off_frame _ _ _ | exact off_refl _ _ | refine off_upd rfl ?_ | refine off_sub rfl ?_)) (hasF_cons (by conv => lhs; whnf) (by rw [hw1]; push_cast; rfl) (by first | rfl | simp [V.ids, V.idsL, idsL_t, Ob.ids]) trivial) trivial
            · have hje : j = kids.length := by have := of_decide_eq_false hc; omega
              have he : eqb kids z_kids = true := (eqb_iff _ _).2 (by rw [hje, List.take_length, hlen, List.take_length] at htk; exact htk)
              refine awp_exit ?_
              refine k_seq_exit ?_
              refine k_rnd_exit ?_
              refine k_blk_exit ?_
              refine k_seq ?_
              refine awp_seq ?_
              refine awp_region ?_
              refine r_assign rfl (by conv => lhs; whnf) rfl ?_
              refine k_nil ?_
              refine k_seq ?_
              refine awp_ret ?_
              refine k_fin ?_
              refine ends_pure [] (by simp only [Try.results18, resOf, List.length_map, ev_tmp, ev_const, ev_func, upd_at, slots_cons, slots_nil, objs_cons, objs_nil, Nat.reduceLT, Nat.reduceEqDiff, Nat.reduceAdd, reduceIte, if_true, if_false, ofVal, ofS, noOb, reduceCtorEq]; rfl) (by rw [he]; exact ⟨give_id _, trivial⟩) (by simp [V.idsL, V.ids])
        · rw [hg5]
          refine r_fieldAddr rfl yF29_3e (by conv => lhs; whnf) (by conv => lhs; whnf) rfl ?_
          refine r_load1 rfl yA3e (by conv => lhs; whnf) (by conv => lhs; whnf) (by (try simp only [List.take_succ_cons, List.take_zero, List.drop_succ_cons, List.drop_zero, List.take_nil, List.drop_nil, List.nil_append, List.cons_append, List.append_nil, List.length_cons, List.length_nil, List.head?_cons, List.map_cons, List.map_nil, Nat.reduceAdd, Nat.zero_add, List.length_map]); rfl) rfl ?_
          refine r_fieldAddr rfl yF29_3e (by conv => lhs; whnf) (by conv => lhs; whnf) rfl ?_
          refine r_load1 rfl yA3e (by conv => lhs; whnf) (by conv => lhs; whnf) (by (try simp only [List.take_succ_cons, List.take_zero, List.drop_succ_cons, List.drop_zero, List.take_nil, List.drop_nil, List.nil_append, List.cons_append, List.append_nil, List.length_cons, List.length_nil, List.head?_cons, List.map_cons, List.map_nil, Nat.reduceAdd, Nat.zero_add, List.length_map]); rfl) rfl ?_
          refine r_bin rfl (by conv => lhs; whnf) (by conv => lhs; whnf) (by simp only [abin, reduceIte, ne_eq, decide_not, Bool.not_true, Bool.not_false]; rfl) rfl ?_
          refine r_pick rfl (by conv => lhs; whnf) (by conv => lhs; whnf) rfl ?_
          refine r_move rfl (by conv => lhs; whnf) rfl ?_
          refine g_split (d := 32) (by conv => lhs; whnf) (fun hg7 => ?_) (fun hg7 => ?_)
          · rw [hg7]
            refine r_no rfl ?_
            refine r_no rfl ?_
            refine r_no rfl ?_
            refine r_no rfl ?_
            refine r_no rfl ?_
            refine r_no rfl ?_
            refine r_pick rfl (by conv => lhs; whnf) (by conv => lhs; whnf) rfl ?_
            refine r_move rfl (by conv => lhs; whnf) rfl ?_
            refine r_no rfl ?_
            refine r_no rfl ?_
            refine r_no rfl ?_
            refine r_no rfl ?_
            refine r_no rfl ?_
            refine r_no rfl ?_
            refine r_pick rfl (by conv => lhs; whnf) (by conv => lhs; whnf) rfl ?_
            refine r_move rfl (by conv => lhs; whnf) rfl ?_
            refine r_no rfl ?_
            refine r_no rfl ?_
            refine r_no rfl ?_
            refine r_no rfl ?_
            refine r_no rfl ?_
            refine r_no rfl ?_
            refine r_no rfl ?_
            refine r_pick rfl (by conv => lhs; whnf) (by conv => lhs; whnf) rfl ?_
            refine k_nil ?_
            refine k_seq ?_
            refine awp_cond rfl (fun hg8 => ?_) (fun hg8 => ?_)
            · refine awp_seq ?_
              refine awp_region ?_
              refine r_assign rfl (by conv => lhs; whnf) rfl ?_
              refine k_nil ?_
              refine k_seq ?_
              refine awp_ret ?_
              refine k_seq_ret ?_
              refine k_fin ?_
              refine ends_pure [] (by simp only [Try.results18, resOf, ev_tmp, ev_const, ev_func, upd_at, slots_cons, slots_nil, objs_cons, objs_nil, Nat.reduceLT, Nat.reduceEqDiff, Nat.reduceAdd, reduceIte, if_true, if_false, ofVal, ofS, noOb, reduceCtorEq]; rfl) (by
                refine ⟨.inl (congrArg (fun b => V.t (.sc (.bool b))) ?_), trivial⟩
                rw [Bool.eq_iff_iff]
                simp only [eqb_iff, Bool.false_eq_true, decide_eq_true_eq, Core.mk.injEq, Form.mk.injEq, Step.mk.injEq, Bind.mk.injEq, Hit.mk.injEq, Rule.mk.injEq, Macro.mk.injEq, Expansion.mk.injEq]
                simp_all [eqb_iff, eqb_not, -List.map_inj_left] <;> (try (intro e; subst e; simp_all))) (by simp [V.idsL, V.ids])
            · refine awp_skip ?_
              refine k_seq ?_
              refine awp_seq ?_
              refine awp_seq ?_
              refine awp_region ?_
              refine r_assign rfl (by conv => lhs; whnf) rfl ?_
              refine k_nil ?_
              refine k_seq ?_
              refine awp_block ?_
              have hAll : kind = z_kind ∧ id = z_id ∧ name = z_name ∧ n = z_n ∧ ids = z_ids ∧ data_kind = z_data_kind ∧ data_name = z_data_name ∧ data_n = z_data_n ∧ data_scopes = z_data_scopes ∧ data_kids = z_data_kids ∧ kids.length = z_kids.length := by simp_all [eqb_iff, eqb_not] <;> omega
              obtain ⟨rfl, rfl, rfl, rfl, rfl, rfl, rfl, rfl, rfl, rfl, hlen⟩ := hAll
              skip
              have hred : eqb (Core.mk kind id name n ids (Form.mk data_kind data_name data_n data_scopes data_kids) kids) (Core.mk kind id name n ids (Form.mk data_kind data_name data_n data_scopes data_kids) z_kids) = eqb kids z_kids := by rw [Bool.eq_iff_iff]; simp [eqb_iff]
              rw [hred]
              refine awp_frame [4, 5, 57, 58, 59, 60, 61, 62, 63, 64, 65, 66, 67, 68, 69, 70, 71, 72, 73, 74, 75] [] [] (fun j : Nat => kids.length - j) (fun j : Nat => [(5, vi j)]) (fun j : Nat => []) (fun j => j ≤ kids.length ∧ kids.take j = z_kids.take j) 0 ⟨Nat.zero_le _, by simp⟩ (by rfl) (by rfl) (fun _ => rfl) (hasF_cons (by conv => lhs; whnf) (by first | rfl | simp) (by first | rfl | simp [V.ids, V.idsL, idsL_t, Ob.ids]) trivial) trivial ?_
              rintro j ⟨hj, htk⟩
              refine awp_seq ?_
              refine awp_seq ?_
              refine awp_region ?_
              refine r_move rfl (by conv => lhs; whnf) rfl ?_
              refine r_fieldAddr rfl yF29_6e (by conv => lhs; whnf) (by conv => lhs; whnf) rfl ?_
              refine r_load1 rfl yA27e (by conv => lhs; whnf) (by conv => lhs; whnf) (by (try simp only [List.length_map, List.take_succ_cons, List.take_zero, List.drop_succ_cons, List.drop_zero, List.take_nil, List.drop_nil, List.nil_append, List.cons_append, List.append_nil, List.length_cons, List.length_nil, List.head?_cons, List.map_cons, List.map_nil, Nat.reduceAdd, Nat.zero_add, List.length_map]); rfl) rfl ?_
              refine r_len rfl yU27e (by conv => lhs; whnf) (by conv => lhs; whnf) rfl ?_
              refine r_bin rfl (by conv => lhs; whnf) (by conv => lhs; whnf) (by simp only [List.length_map, abin, reduceIte, ne_eq, decide_not, Bool.not_true, Bool.not_false]; rfl) rfl ?_
              refine k_nil ?_
              refine k_seq ?_
              refine awp_cond rfl (fun hc => ?_) (fun hc => ?_)
              · have hlt : j < kids.length := by have := of_decide_eq_true hc; omega
                have hlt2 : j < z_kids.length := by omega
                have hgl := map_get Core.row kids j hlt
                have hgr := map_get Core.row z_kids j hlt2
                have hw1 := IntWalk.i64_in ((j : Int) + 1) (by omega)
                clear hc
                have hle := T.wtR_le Core.row kids (j + 1)
                have hsucc := T.wtR_succ Core.row kids j hlt
                have hle2 := T.wtR_le Core.row z_kids (j + 1)
                have hsucc2 := T.wtR_succ Core.row z_kids j hlt2
                have hmem : kids[j] ∈ kids := List.getElem_mem hlt
                have hkid := specCoreSame_ok kids[j] z_kids[j] (by omega) (by omega)
                refine awp_skip ?_
                refine k_seq ?_
                refine awp_seq ?_
                refine awp_block ?_
                refine awp_seq ?_
                refine awp_draw yMixe (by kernel_rfl) ?_
                refine r_fieldAddr rfl yF29_6e (by conv => lhs; whnf) (by conv => lhs; whnf) (by simp only [fpOf, idOf, Option.getD_some, Option.getD_none, Op.operands, Call.operands, V.idsL, V.ids, idsL_t, List.append_nil, List.nil_append, List.cons_append, List.toList_toArray, List.map_toArray, List.size_toArray, List.append_toArray, ev_tmp, ev_const, ev_func, upd_at, slots_cons, slots_nil, objs_cons, objs_nil, Nat.reduceLT, Nat.reduceEqDiff, Nat.reduceAdd, reduceIte, if_true, if_false, ofVal, ofS, noOb, reduceCtorEq, List.take_succ_cons, List.take_zero, List.drop_succ_cons, List.drop_zero, List.take_nil, List.drop_nil, List.nil_append, List.cons_append, List.append_nil, List.length_cons, List.length_nil, List.head?_cons, List.map_cons, List.map_nil, Nat.reduceAdd, Nat.zero_add, List.length_map, hgl, hgr, Core.row_len, Core.take, List.length_map]; rfl) ?_
                refine r_load1 rfl yA27e (by conv => lhs; whnf) (by conv => lhs; whnf) (by (try simp only [hgl, hgr, Core.row_len, Core.take, List.length_map, List.take_succ_cons, List.take_zero, List.drop_succ_cons, List.drop_zero, List.take_nil, List.drop_nil, List.nil_append, List.cons_append, List.append_nil, List.length_cons, List.length_nil, List.head?_cons, List.map_cons, List.map_nil, Nat.reduceAdd, Nat.zero_add, List.length_map]); rfl) (by simp only [fpOf, idOf, Option.getD_some, Option.getD_none, Op.operands, Call.operands, V.idsL, V.ids, idsL_t, List.append_nil, List.nil_append, List.cons_append, List.toList_toArray, List.map_toArray, List.size_toArray, List.append_toArray, ev_tmp, ev_const, ev_func, upd_at, slots_cons, slots_nil, objs_cons, objs_nil, Nat.reduceLT, Nat.reduceEqDiff, Nat.reduceAdd, reduceIte, if_true, if_false, ofVal, ofS, noOb, reduceCtorEq, List.take_succ_cons, List.take_zero, List.drop_succ_cons, List.drop_zero, List.take_nil, List.drop_nil, List.nil_append, List.cons_append, List.append_nil, List.length_cons, List.length_nil, List.head?_cons, List.map_cons, List.map_nil, Nat.reduceAdd, Nat.zero_add, List.length_map, hgl, hgr, Core.row_len, Core.take, List.length_map]; rfl) ?_
                refine r_move rfl (by conv => lhs; whnf) (by simp only [fpOf, idOf, Option.getD_some, Option.getD_none, Op.operands, Call.operands, V.idsL, V.ids, idsL_t, List.append_nil, List.nil_append, List.cons_append, List.toList_toArray, List.map_toArray, List.size_toArray, List.append_toArray, ev_tmp, ev_const, ev_func, upd_at, slots_cons, slots_nil, objs_cons, objs_nil, Nat.reduceLT, Nat.reduceEqDiff, Nat.reduceAdd, reduceIte, if_true, if_false, ofVal, ofS, noOb, reduceCtorEq, List.take_succ_cons, List.take_zero, List.drop_succ_cons, List.drop_zero, List.take_nil, List.drop_nil, List.nil_append, List.cons_append, List.append_nil, List.length_cons, List.length_nil, List.head?_cons, List.map_cons, List.map_nil, Nat.reduceAdd, Nat.zero_add, List.length_map, hgl, hgr, Core.row_len, Core.take, List.length_map]; rfl) ?_
                refine r_indexAddr rfl yE27e (by conv => lhs; whnf) (by conv => lhs; whnf) (by omega) (by simp only [hgl, hgr, Core.row_len, Core.take, List.length_map, indexP, ev_tmp, ev_const, ev_func, upd_at, slots_cons, slots_nil, objs_cons, objs_nil, Nat.reduceLT, Nat.reduceEqDiff, Nat.reduceAdd, reduceIte, if_true, if_false, ofVal, ofS, noOb, reduceCtorEq]; rfl) (by simp only [fpOf, idOf, Option.getD_some, Option.getD_none, Op.operands, Call.operands, V.idsL, V.ids, idsL_t, List.append_nil, List.nil_append, List.cons_append, List.toList_toArray, List.map_toArray, List.size_toArray, List.append_toArray, ev_tmp, ev_const, ev_func, upd_at, slots_cons, slots_nil, objs_cons, objs_nil, Nat.reduceLT, Nat.reduceEqDiff, Nat.reduceAdd, reduceIte, if_true, if_false, ofVal, ofS, noOb, reduceCtorEq, List.take_succ_cons, List.take_zero, List.drop_succ_cons, List.drop_zero, List.take_nil, List.drop_nil, List.nil_append, List.cons_append, List.append_nil, List.length_cons, List.length_nil, List.head?_cons, List.map_cons, List.map_nil, Nat.reduceAdd, Nat.zero_add, List.length_map, hgl, hgr, Core.row_len, Core.take, List.length_map]; rfl) ?_
                refine r_loadN rfl yA29e yS29e (by conv => lhs; whnf) (by conv => lhs; whnf) (by simp only [hgl, hgr, Core.row_len, Core.take, List.length_map, List.take_succ_cons, List.take_zero, List.drop_succ_cons, List.drop_zero, List.take_nil, List.drop_nil, List.nil_append, List.cons_append, List.append_nil, List.length_cons, List.length_nil, List.head?_cons, List.map_cons, List.map_nil, Nat.reduceAdd, Nat.zero_add, List.length_map]; omega) (by (try simp only [hgl, hgr, Core.row_len, Core.take, List.length_map, List.take_succ_cons, List.take_zero, List.drop_succ_cons, List.drop_zero, List.take_nil, List.drop_nil, List.nil_append, List.cons_append, List.append_nil, List.length_cons, List.length_nil, List.head?_cons, List.map_cons, List.map_nil, Nat.reduceAdd, Nat.zero_add, List.length_map]); rfl) (by simp only [fpOf, idOf, Option.getD_some, Option.getD_none, Op.operands, Call.operands, V.idsL, V.ids, idsL_t, List.append_nil, List.nil_append, List.cons_append, List.toList_toArray, List.map_toArray, List.size_toArray, List.append_toArray, ev_tmp, ev_const, ev_func, upd_at, slots_cons, slots_nil, objs_cons, objs_nil, Nat.reduceLT, Nat.reduceEqDiff, Nat.reduceAdd, reduceIte, if_true, if_false, ofVal, ofS, noOb, reduceCtorEq, List.take_succ_cons, List.take_zero, List.drop_succ_cons, List.drop_zero, List.take_nil, List.drop_nil, List.nil_append, List.cons_append, List.append_nil, List.length_cons, List.length_nil, List.head?_cons, List.map_cons, List.map_nil, Nat.reduceAdd, Nat.zero_add, List.length_map, hgl, hgr, Core.row_len, Core.take, List.length_map]; rfl) ?_
                refine r_fieldAddr rfl yF29_6e (by conv => lhs; whnf) (by conv => lhs; whnf) (by simp only [fpOf, idOf, Option.getD_some, Option.getD_none, Op.operands, Call.operands, V.idsL, V.ids, idsL_t, List.append_nil, List.nil_append, List.cons_append, List.toList_toArray, List.map_toArray, List.size_toArray, List.append_toArray, ev_tmp, ev_const, ev_func, upd_at, slots_cons, slots_nil, objs_cons, objs_nil, Nat.reduceLT, Nat.reduceEqDiff, Nat.reduceAdd, reduceIte, if_true, if_false, ofVal, ofS, noOb, reduceCtorEq, List.take_succ_cons, List.take_zero, List.drop_succ_cons, List.drop_zero, List.take_nil, List.drop_nil, List.nil_append, List.cons_append, List.append_nil, List.length_cons, List.length_nil, List.head?_cons, List.map_cons, List.map_nil, Nat.reduceAdd, Nat.zero_add, List.length_map, hgl, hgr, Core.row_len, Core.take, List.length_map]; rfl) ?_
                refine r_load1 rfl yA27e (by conv => lhs; whnf) (by conv => lhs; whnf) (by (try simp only [hgl, hgr, Core.row_len, Core.take, List.length_map, List.take_succ_cons, List.take_zero, List.drop_succ_cons, List.drop_zero, List.take_nil, List.drop_nil, List.nil_append, List.cons_append, List.append_nil, List.length_cons, List.length_nil, List.head?_cons, List.map_cons, List.map_nil, Nat.reduceAdd, Nat.zero_add, List.length_map]); rfl) (by simp only [fpOf, idOf, Option.getD_some, Option.getD_none, Op.operands, Call.operands, V.idsL, V.ids, idsL_t, List.append_nil, List.nil_append, List.cons_append, List.toList_toArray, List.map_toArray, List.size_toArray, List.append_toArray, ev_tmp, ev_const, ev_func, upd_at, slots_cons, slots_nil, objs_cons, objs_nil, Nat.reduceLT, Nat.reduceEqDiff, Nat.reduceAdd, reduceIte, if_true, if_false, ofVal, ofS, noOb, reduceCtorEq, List.take_succ_cons, List.take_zero, List.drop_succ_cons, List.drop_zero, List.take_nil, List.drop_nil, List.nil_append, List.cons_append, List.append_nil, List.length_cons, List.length_nil, List.head?_cons, List.map_cons, List.map_nil, Nat.reduceAdd, Nat.zero_add, List.length_map, hgl, hgr, Core.row_len, Core.take, List.length_map]; rfl) ?_
                refine r_move rfl (by conv => lhs; whnf) (by simp only [fpOf, idOf, Option.getD_some, Option.getD_none, Op.operands, Call.operands, V.idsL, V.ids, idsL_t, List.append_nil, List.nil_append, List.cons_append, List.toList_toArray, List.map_toArray, List.size_toArray, List.append_toArray, ev_tmp, ev_const, ev_func, upd_at, slots_cons, slots_nil, objs_cons, objs_nil, Nat.reduceLT, Nat.reduceEqDiff, Nat.reduceAdd, reduceIte, if_true, if_false, ofVal, ofS, noOb, reduceCtorEq, List.take_succ_cons, List.take_zero, List.drop_succ_cons, List.drop_zero, List.take_nil, List.drop_nil, List.nil_append, List.cons_append, List.append_nil, List.length_cons, List.length_nil, List.head?_cons, List.map_cons, List.map_nil, Nat.reduceAdd, Nat.zero_add, List.length_map, hgl, hgr, Core.row_len, Core.take, List.length_map]; rfl) ?_
                refine r_indexAddr rfl yE27e (by conv => lhs; whnf) (by conv => lhs; whnf) (by omega) (by simp only [hgl, hgr, Core.row_len, Core.take, List.length_map, indexP, ev_tmp, ev_const, ev_func, upd_at, slots_cons, slots_nil, objs_cons, objs_nil, Nat.reduceLT, Nat.reduceEqDiff, Nat.reduceAdd, reduceIte, if_true, if_false, ofVal, ofS, noOb, reduceCtorEq]; rfl) (by simp only [fpOf, idOf, Option.getD_some, Option.getD_none, Op.operands, Call.operands, V.idsL, V.ids, idsL_t, List.append_nil, List.nil_append, List.cons_append, List.toList_toArray, List.map_toArray, List.size_toArray, List.append_toArray, ev_tmp, ev_const, ev_func, upd_at, slots_cons, slots_nil, objs_cons, objs_nil, Nat.reduceLT, Nat.reduceEqDiff, Nat.reduceAdd, reduceIte, if_true, if_false, ofVal, ofS, noOb, reduceCtorEq, List.take_succ_cons, List.take_zero, List.drop_succ_cons, List.drop_zero, List.take_nil, List.drop_nil, List.nil_append, List.cons_append, List.append_nil, List.length_cons, List.length_nil, List.head?_cons, List.map_cons, List.map_nil, Nat.reduceAdd, Nat.zero_add, List.length_map, hgl, hgr, Core.row_len, Core.take, List.length_map]; rfl) ?_
                refine r_loadN rfl yA29e yS29e (by conv => lhs; whnf) (by conv => lhs; whnf) (by simp only [hgl, hgr, Core.row_len, Core.take, List.length_map, List.take_succ_cons, List.take_zero, List.drop_succ_cons, List.drop_zero, List.take_nil, List.drop_nil, List.nil_append, List.cons_append, List.append_nil, List.length_cons, List.length_nil, List.head?_cons, List.map_cons, List.map_nil, Nat.reduceAdd, Nat.zero_add, List.length_map]; omega) (by (try simp only [hgl, hgr, Core.row_len, Core.take, List.length_map, List.take_succ_cons, List.take_zero, List.drop_succ_cons, List.drop_zero, List.take_nil, List.drop_nil, List.nil_append, List.cons_append, List.append_nil, List.length_cons, List.length_nil, List.head?_cons, List.map_cons, List.map_nil, Nat.reduceAdd, Nat.zero_add, List.length_map]); rfl) (by simp only [fpOf, idOf, Option.getD_some, Option.getD_none, Op.operands, Call.operands, V.idsL, V.ids, idsL_t, List.append_nil, List.nil_append, List.cons_append, List.toList_toArray, List.map_toArray, List.size_toArray, List.append_toArray, ev_tmp, ev_const, ev_func, upd_at, slots_cons, slots_nil, objs_cons, objs_nil, Nat.reduceLT, Nat.reduceEqDiff, Nat.reduceAdd, reduceIte, if_true, if_false, ofVal, ofS, noOb, reduceCtorEq, List.take_succ_cons, List.take_zero, List.drop_succ_cons, List.drop_zero, List.take_nil, List.drop_nil, List.nil_append, List.cons_append, List.append_nil, List.length_cons, List.length_nil, List.head?_cons, List.map_cons, List.map_nil, Nat.reduceAdd, Nat.zero_add, List.length_map, hgl, hgr, Core.row_len, Core.take, List.length_map]; rfl) ?_
                refine r_pure [] rfl rfl rfl (by conv => lhs; whnf) (by simp only [hgl, hgr, Core.row_len, Core.take, List.length_map, ev_tmp, ev_const, ev_func, upd_at, slots_cons, slots_nil, objs_cons, objs_nil, Nat.reduceLT, Nat.reduceEqDiff, Nat.reduceAdd, reduceIte, if_true, if_false, ofVal, ofS, noOb, reduceCtorEq, List.take_succ_cons, List.take_zero, List.drop_succ_cons, List.drop_zero, List.take_nil, List.drop_nil, List.nil_append, List.cons_append, List.append_nil, List.length_cons, List.length_nil, List.head?_cons, List.map_cons, List.map_nil, Nat.reduceAdd, Nat.zero_add, List.length_map, List.toList_toArray]; rfl) (by simp only [hgl, hgr, Core.row_len, Core.take, List.length_map, fzU, ev_tmp, ev_const, ev_func, upd_at, slots_cons, slots_nil, objs_cons, objs_nil, Nat.reduceLT, Nat.reduceEqDiff, Nat.reduceAdd, reduceIte, if_true, if_false, ofVal, ofS, noOb, reduceCtorEq]; rfl) (by simp only [app]; rfl) (hkid) (by exact ⟨(by first | exact pass_id rfl | exact pass_id (ids_row _) | exact .inr (.inl ⟨_, rfl, rfl, by simp [fz]⟩) | exact .inr (.inr ⟨_, _, rfl, rfl, rfl, by simp [fz]⟩)), (by first | exact pass_id rfl | exact pass_id (ids_row _) | exact .inr (.inl ⟨_, rfl, rfl, by simp [fz]⟩) | exact .inr (.inr ⟨_, _, rfl, rfl, rfl, by simp [fz]⟩)), trivial⟩) (by simp only [fpOf, Op.operands, Call.operands, V.idsL, V.ids, idsL_t, List.append_nil, List.nil_append, List.cons_append, List.map_toArray, List.append_toArray, hgl, hgr, Core.row_len, Core.take, List.length_map, ev_tmp, ev_const, ev_func, upd_at, slots_cons, slots_nil, objs_cons, objs_nil, Nat.reduceLT, Nat.reduceEqDiff, Nat.reduceAdd, reduceIte, if_true, if_false, ofVal, ofS, noOb, reduceCtorEq, List.take_succ_cons, List.take_zero, List.drop_succ_cons, List.drop_zero, List.take_nil, List.drop_nil, List.nil_append, List.cons_append, List.append_nil, List.length_cons, List.length_nil, List.head?_cons, List.map_cons, List.map_nil, Nat.reduceAdd, Nat.zero_add, List.length_map]; rfl) ?_
                refine r_un rfl (by conv => lhs; whnf) (by conv => lhs; whnf) (by simp only [fpOf, idOf, Option.getD_some, Option.getD_none, Op.operands, Call.operands, V.idsL, V.ids, idsL_t, List.append_nil, List.nil_append, List.cons_append, List.toList_toArray, List.map_toArray, List.size_toArray, List.append_toArray, ev_tmp, ev_const, ev_func, upd_at, slots_cons, slots_nil, objs_cons, objs_nil, Nat.reduceLT, Nat.reduceEqDiff, Nat.reduceAdd, reduceIte, if_true, if_false, ofVal, ofS, noOb, reduceCtorEq, List.take_succ_cons, List.take_zero, List.drop_succ_cons, List.drop_zero, List.take_nil, List.drop_nil, List.nil_append, List.cons_append, List.append_nil, List.length_cons, List.length_nil, List.head?_cons, List.map_cons, List.map_nil, Nat.reduceAdd, Nat.zero_add, List.length_map, hgl, hgr, Core.row_len, Core.take, List.length_map]; rfl) ?_
                refine k_nilD (by simp only [List.reverse_cons, List.reverse_nil, List.nil_append, List.cons_append]; kernel_rfl) ?_
                refine k_seq ?_
                refine awp_cond rfl (fun hc => ?_) (fun hc => ?_)
                · have hne : eqb kids z_kids = false := (eqb_not _ _).2 (fun e => by subst e; simp [eqb] at hc)
                  refine awp_seq ?_
                  refine awp_region ?_
                  refine r_assign rfl (by conv => lhs; whnf) rfl ?_
                  refine k_nil ?_
                  refine k_seq ?_
                  refine awp_ret ?_
                  refine k_blk_ret ?_
                  refine k_seq_ret ?_
                  refine k_rnd_ret ?_
                  refine k_blk_ret ?_
                  refine k_seq_ret ?_
                  refine k_fin ?_
                  refine ends_pure [] (by simp only [Try.results18, resOf, hgl, hgr, Core.row_len, Core.take, List.length_map, ev_tmp, ev_const, ev_func, upd_at, slots_cons, slots_nil, objs_cons, objs_nil, Nat.reduceLT, Nat.reduceEqDiff, Nat.reduceAdd, reduceIte, if_true, if_false, ofVal, ofS, noOb, reduceCtorEq]; rfl) (by rw [hne]; exact ⟨give_id _, trivial⟩) (by simp [V.idsL, V.ids])
                · have he : kids[j] = z_kids[j] := by simpa [eqb] using hc
                  refine awp_skip ?_
                  refine k_blk ?_
                  refine k_seq ?_
                  refine awp_region ?_
                  refine r_move rfl (by conv => lhs; whnf) rfl ?_
                  refine r_bin rfl (by conv => lhs; whnf) (by conv => lhs; whnf) (by simp only [hgl, hgr, Core.row_len, Core.take, List.length_map, abin, reduceIte, ne_eq, decide_not, Bool.not_true, Bool.not_false]; rfl) rfl ?_
                  refine r_assign rfl (by conv => lhs; whnf) rfl ?_
                  refine k_nil ?_
                  refine k_rnd (j + 1) ⟨hlt, by rw [List.take_succ_eq_append_getElem hlt, List.take_succ_eq_append_getElem hlt2, htk, he]⟩ (by show kids.length - (j + 1) < kids.length - j; omega) (by repeat (first | exact off_frame _ _ _ | exact off_refl _ _ | refine off_upd rfl ?_ | refine off_sub rfl ?_)) (by repeat (first | exact off_frame _ _ _ | exact off_refl _ _ | refine off_upd rfl ?_ | refine off_sub rfl ?_)) (hasF_cons (by conv => lhs; whnf) (by rw [hw1]; push_cast; rfl) (by first | rfl | simp [V.ids, V.idsL, idsL_t, Ob.ids]) trivial) trivial
              · have hje : j = kids.length := by have := of_decide_eq_false hc; omega
                have he : eqb kids z_kids = true := (eqb_iff _ _).2 (by rw [hje, List.take_length, hlen, List.take_length] at htk; exact htk)
                refine awp_exit ?_
                refine k_seq_exit ?_
                refine k_rnd_exit ?_
                refine k_blk_exit ?_
                refine k_seq ?_
                refine awp_seq ?_
                refine awp_region ?_
                refine r_assign rfl (by conv => lhs; whnf) rfl ?_
                refine k_nil ?_
                refine k_seq ?_
                refine awp_ret ?_
                refine k_fin ?_
                refine ends_pure [] (by simp only [Try.results18, resOf, List.length_map, ev_tmp, ev_const, ev_func, upd_at, slots_cons, slots_nil, objs_cons, objs_nil, Nat.reduceLT, Nat.reduceEqDiff, Nat.reduceAdd, reduceIte, if_true, if_false, ofVal, ofS, noOb, reduceCtorEq]; rfl) (by rw [he]; exact ⟨give_id _, trivial⟩) (by simp [V.idsL, V.ids])
          · rw [hg7]
            refine r_fieldAddr rfl yF29_4e (by conv => lhs; whnf) (by conv => lhs; whnf) rfl ?_
            refine r_load1 rfl yA23e (by conv => lhs; whnf) (by conv => lhs; whnf) (by (try simp only [List.take_succ_cons, List.take_zero, List.drop_succ_cons, List.drop_zero, List.take_nil, List.drop_nil, List.nil_append, List.cons_append, List.append_nil, List.length_cons, List.length_nil, List.head?_cons, List.map_cons, List.map_nil, Nat.reduceAdd, Nat.zero_add, List.length_map]); rfl) rfl ?_
            refine r_fieldAddr rfl yF29_4e (by conv => lhs; whnf) (by conv => lhs; whnf) rfl ?_
            refine r_load1 rfl yA23e (by conv => lhs; whnf) (by conv => lhs; whnf) (by (try simp only [List.take_succ_cons, List.take_zero, List.drop_succ_cons, List.drop_zero, List.take_nil, List.drop_nil, List.nil_append, List.cons_append, List.append_nil, List.length_cons, List.length_nil, List.head?_cons, List.map_cons, List.map_nil, Nat.reduceAdd, Nat.zero_add, List.length_map]); rfl) rfl ?_
            have hk9 := l1Ints_ok ids z_ids (by omega) (by omega)
            refine r_pure [] rfl rfl rfl (by conv => lhs; whnf) (by simp only [ev_tmp, ev_const, ev_func, upd_at, slots_cons, slots_nil, objs_cons, objs_nil, Nat.reduceLT, Nat.reduceEqDiff, Nat.reduceAdd, reduceIte, if_true, if_false, ofVal, ofS, noOb, reduceCtorEq, List.take_succ_cons, List.take_zero, List.drop_succ_cons, List.drop_zero, List.take_nil, List.drop_nil, List.nil_append, List.cons_append, List.append_nil, List.length_cons, List.length_nil, List.head?_cons, List.map_cons, List.map_nil, Nat.reduceAdd, Nat.zero_add, List.length_map, List.toList_toArray]; rfl) (by simp only [fzU, ev_tmp, ev_const, ev_func, upd_at, slots_cons, slots_nil, objs_cons, objs_nil, Nat.reduceLT, Nat.reduceEqDiff, Nat.reduceAdd, reduceIte, if_true, if_false, ofVal, ofS, noOb, reduceCtorEq]; rfl) (by simp only [app]; rfl) (hk9) (by exact ⟨(by first | exact pass_id rfl | exact pass_id (ids_row _) | exact .inr (.inl ⟨_, rfl, rfl, by simp [fz]⟩) | exact .inr (.inr ⟨_, _, rfl, rfl, rfl, by simp [fz]⟩)), (by first | exact pass_id rfl | exact pass_id (ids_row _) | exact .inr (.inl ⟨_, rfl, rfl, by simp [fz]⟩) | exact .inr (.inr ⟨_, _, rfl, rfl, rfl, by simp [fz]⟩)), trivial⟩) rfl ?_
            refine r_un rfl (by conv => lhs; whnf) (by conv => lhs; whnf) rfl ?_
            refine r_pick rfl (by conv => lhs; whnf) (by conv => lhs; whnf) rfl ?_
            refine r_move rfl (by conv => lhs; whnf) rfl ?_
            refine g_split (d := 40) (by conv => lhs; whnf) (fun hg10 => ?_) (fun hg10 => ?_)
            · rw [hg10]
              refine r_no rfl ?_
              refine r_no rfl ?_
              refine r_no rfl ?_
              refine r_no rfl ?_
              refine r_no rfl ?_
              refine r_no rfl ?_
              refine r_pick rfl (by conv => lhs; whnf) (by conv => lhs; whnf) rfl ?_
              refine r_move rfl (by conv => lhs; whnf) rfl ?_
              refine r_no rfl ?_
              refine r_no rfl ?_
              refine r_no rfl ?_
              refine r_no rfl ?_
              refine r_no rfl ?_
              refine r_no rfl ?_
              refine r_no rfl ?_
              refine r_pick rfl (by conv => lhs; whnf) (by conv => lhs; whnf) rfl ?_
              refine k_nil ?_
              refine k_seq ?_
              refine awp_cond rfl (fun hg11 => ?_) (fun hg11 => ?_)
              · refine awp_seq ?_
                refine awp_region ?_
                refine r_assign rfl (by conv => lhs; whnf) rfl ?_
                refine k_nil ?_
                refine k_seq ?_
                refine awp_ret ?_
                refine k_seq_ret ?_
                refine k_fin ?_
                refine ends_pure [] (by simp only [Try.results18, resOf, ev_tmp, ev_const, ev_func, upd_at, slots_cons, slots_nil, objs_cons, objs_nil, Nat.reduceLT, Nat.reduceEqDiff, Nat.reduceAdd, reduceIte, if_true, if_false, ofVal, ofS, noOb, reduceCtorEq]; rfl) (by
                  refine ⟨.inl (congrArg (fun b => V.t (.sc (.bool b))) ?_), trivial⟩
                  rw [Bool.eq_iff_iff]
                  simp only [eqb_iff, Bool.false_eq_true, decide_eq_true_eq, Core.mk.injEq, Form.mk.injEq, Step.mk.injEq, Bind.mk.injEq, Hit.mk.injEq, Rule.mk.injEq, Macro.mk.injEq, Expansion.mk.injEq]
                  simp_all [eqb_iff, eqb_not, -List.map_inj_left] <;> (try (intro e; subst e; simp_all))) (by simp [V.idsL, V.ids])
              · refine awp_skip ?_
                refine k_seq ?_
                refine awp_seq ?_
                refine awp_seq ?_
                refine awp_region ?_
                refine r_assign rfl (by conv => lhs; whnf) rfl ?_
                refine k_nil ?_
                refine k_seq ?_
                refine awp_block ?_
                have hAll : kind = z_kind ∧ id = z_id ∧ name = z_name ∧ n = z_n ∧ ids = z_ids ∧ data_kind = z_data_kind ∧ data_name = z_data_name ∧ data_n = z_data_n ∧ data_scopes = z_data_scopes ∧ data_kids = z_data_kids ∧ kids.length = z_kids.length := by simp_all [eqb_iff, eqb_not] <;> omega
                obtain ⟨rfl, rfl, rfl, rfl, rfl, rfl, rfl, rfl, rfl, rfl, hlen⟩ := hAll
                skip
                have hred : eqb (Core.mk kind id name n ids (Form.mk data_kind data_name data_n data_scopes data_kids) kids) (Core.mk kind id name n ids (Form.mk data_kind data_name data_n data_scopes data_kids) z_kids) = eqb kids z_kids := by rw [Bool.eq_iff_iff]; simp [eqb_iff]
                rw [hred]
                refine awp_frame [4, 5, 57, 58, 59, 60, 61, 62, 63, 64, 65, 66, 67, 68, 69, 70, 71, 72, 73, 74, 75] [] [] (fun j : Nat => kids.length - j) (fun j : Nat => [(5, vi j)]) (fun j : Nat => []) (fun j => j ≤ kids.length ∧ kids.take j = z_kids.take j) 0 ⟨Nat.zero_le _, by simp⟩ (by rfl) (by rfl) (fun _ => rfl) (hasF_cons (by conv => lhs; whnf) (by first | rfl | simp) (by first | rfl | simp [V.ids, V.idsL, idsL_t, Ob.ids]) trivial) trivial ?_
                rintro j ⟨hj, htk⟩
                refine awp_seq ?_
                refine awp_seq ?_
                refine awp_region ?_
                refine r_move rfl (by conv => lhs; whnf) rfl ?_
                refine r_fieldAddr rfl yF29_6e (by conv => lhs; whnf) (by conv => lhs; whnf) rfl ?_
                refine r_load1 rfl yA27e (by conv => lhs; whnf) (by conv => lhs; whnf) (by (try simp only [List.length_map, List.take_succ_cons, List.take_zero, List.drop_succ_cons, List.drop_zero, List.take_nil, List.drop_nil, List.nil_append, List.cons_append, List.append_nil, List.length_cons, List.length_nil, List.head?_cons, List.map_cons, List.map_nil, Nat.reduceAdd, Nat.zero_add, List.length_map]); rfl) rfl ?_
                refine r_len rfl yU27e (by conv => lhs; whnf) (by conv => lhs; whnf) rfl ?_
                refine r_bin rfl (by conv => lhs; whnf) (by conv => lhs; whnf) (by simp only [List.length_map, abin, reduceIte, ne_eq, decide_not, Bool.not_true, Bool.not_false]; rfl) rfl ?_
                refine k_nil ?_
                refine k_seq ?_
                refine awp_cond rfl (fun hc => ?_) (fun hc => ?_)
                · have hlt : j < kids.length := by have := of_decide_eq_true hc; omega
                  have hlt2 : j < z_kids.length := by omega
                  have hgl := map_get Core.row kids j hlt
                  have hgr := map_get Core.row z_kids j hlt2
                  have hw1 := IntWalk.i64_in ((j : Int) + 1) (by omega)
                  clear hc
                  have hle := T.wtR_le Core.row kids (j + 1)
                  have hsucc := T.wtR_succ Core.row kids j hlt
                  have hle2 := T.wtR_le Core.row z_kids (j + 1)
                  have hsucc2 := T.wtR_succ Core.row z_kids j hlt2
                  have hmem : kids[j] ∈ kids := List.getElem_mem hlt
                  have hkid := specCoreSame_ok kids[j] z_kids[j] (by omega) (by omega)
                  refine awp_skip ?_
                  refine k_seq ?_
                  refine awp_seq ?_
                  refine awp_block ?_
                  refine awp_seq ?_
                  refine awp_draw yMixe (by kernel_rfl) ?_
                  refine r_fieldAddr rfl yF29_6e (by conv => lhs; whnf) (by conv => lhs; whnf) (by simp only [fpOf, idOf, Option.getD_some, Option.getD_none, Op.operands, Call.operands, V.idsL, V.ids, idsL_t, List.append_nil, List.nil_append, List.cons_append, List.toList_toArray, List.map_toArray, List.size_toArray, List.append_toArray, ev_tmp, ev_const, ev_func, upd_at, slots_cons, slots_nil, objs_cons, objs_nil, Nat.reduceLT, Nat.reduceEqDiff, Nat.reduceAdd, reduceIte, if_true, if_false, ofVal, ofS, noOb, reduceCtorEq, List.take_succ_cons, List.take_zero, List.drop_succ_cons, List.drop_zero, List.take_nil, List.drop_nil, List.nil_append, List.cons_append, List.append_nil, List.length_cons, List.length_nil, List.head?_cons, List.map_cons, List.map_nil, Nat.reduceAdd, Nat.zero_add, List.length_map, hgl, hgr, Core.row_len, Core.take, List.length_map]; rfl) ?_
                  refine r_load1 rfl yA27e (by conv => lhs; whnf) (by conv => lhs; whnf) (by (try simp only [hgl, hgr, Core.row_len, Core.take, List.length_map, List.take_succ_cons, List.take_zero, List.drop_succ_cons, List.drop_zero, List.take_nil, List.drop_nil, List.nil_append, List.cons_append, List.append_nil, List.length_cons, List.length_nil, List.head?_cons, List.map_cons, List.map_nil, Nat.reduceAdd, Nat.zero_add, List.length_map]); rfl) (by simp only [fpOf, idOf, Option.getD_some, Option.getD_none, Op.operands, Call.operands, V.idsL, V.ids, idsL_t, List.append_nil, List.nil_append, List.cons_append, List.toList_toArray, List.map_toArray, List.size_toArray, List.append_toArray, ev_tmp, ev_const, ev_func, upd_at, slots_cons, slots_nil, objs_cons, objs_nil, Nat.reduceLT, Nat.reduceEqDiff, Nat.reduceAdd, reduceIte, if_true, if_false, ofVal, ofS, noOb, reduceCtorEq, List.take_succ_cons, List.take_zero, List.drop_succ_cons, List.drop_zero, List.take_nil, List.drop_nil, List.nil_append, List.cons_append, List.append_nil, List.length_cons, List.length_nil, List.head?_cons, List.map_cons, List.map_nil, Nat.reduceAdd, Nat.zero_add, List.length_map, hgl, hgr, Core.row_len, Core.take, List.length_map]; rfl) ?_
                  refine r_move rfl (by conv => lhs; whnf) (by simp only [fpOf, idOf, Option.getD_some, Option.getD_none, Op.operands, Call.operands, V.idsL, V.ids, idsL_t, List.append_nil, List.nil_append, List.cons_append, List.toList_toArray, List.map_toArray, List.size_toArray, List.append_toArray, ev_tmp, ev_const, ev_func, upd_at, slots_cons, slots_nil, objs_cons, objs_nil, Nat.reduceLT, Nat.reduceEqDiff, Nat.reduceAdd, reduceIte, if_true, if_false, ofVal, ofS, noOb, reduceCtorEq, List.take_succ_cons, List.take_zero, List.drop_succ_cons, List.drop_zero, List.take_nil, List.drop_nil, List.nil_append, List.cons_append, List.append_nil, List.length_cons, List.length_nil, List.head?_cons, List.map_cons, List.map_nil, Nat.reduceAdd, Nat.zero_add, List.length_map, hgl, hgr, Core.row_len, Core.take, List.length_map]; rfl) ?_
                  refine r_indexAddr rfl yE27e (by conv => lhs; whnf) (by conv => lhs; whnf) (by omega) (by simp only [hgl, hgr, Core.row_len, Core.take, List.length_map, indexP, ev_tmp, ev_const, ev_func, upd_at, slots_cons, slots_nil, objs_cons, objs_nil, Nat.reduceLT, Nat.reduceEqDiff, Nat.reduceAdd, reduceIte, if_true, if_false, ofVal, ofS, noOb, reduceCtorEq]; rfl) (by simp only [fpOf, idOf, Option.getD_some, Option.getD_none, Op.operands, Call.operands, V.idsL, V.ids, idsL_t, List.append_nil, List.nil_append, List.cons_append, List.toList_toArray, List.map_toArray, List.size_toArray, List.append_toArray, ev_tmp, ev_const, ev_func, upd_at, slots_cons, slots_nil, objs_cons, objs_nil, Nat.reduceLT, Nat.reduceEqDiff, Nat.reduceAdd, reduceIte, if_true, if_false, ofVal, ofS, noOb, reduceCtorEq, List.take_succ_cons, List.take_zero, List.drop_succ_cons, List.drop_zero, List.take_nil, List.drop_nil, List.nil_append, List.cons_append, List.append_nil, List.length_cons, List.length_nil, List.head?_cons, List.map_cons, List.map_nil, Nat.reduceAdd, Nat.zero_add, List.length_map, hgl, hgr, Core.row_len, Core.take, List.length_map]; rfl) ?_
                  refine r_loadN rfl yA29e yS29e (by conv => lhs; whnf) (by conv => lhs; whnf) (by simp only [hgl, hgr, Core.row_len, Core.take, List.length_map, List.take_succ_cons, List.take_zero, List.drop_succ_cons, List.drop_zero, List.take_nil, List.drop_nil, List.nil_append, List.cons_append, List.append_nil, List.length_cons, List.length_nil, List.head?_cons, List.map_cons, List.map_nil, Nat.reduceAdd, Nat.zero_add, List.length_map]; omega) (by (try simp only [hgl, hgr, Core.row_len, Core.take, List.length_map, List.take_succ_cons, List.take_zero, List.drop_succ_cons, List.drop_zero, List.take_nil, List.drop_nil, List.nil_append, List.cons_append, List.append_nil, List.length_cons, List.length_nil, List.head?_cons, List.map_cons, List.map_nil, Nat.reduceAdd, Nat.zero_add, List.length_map]); rfl) (by simp only [fpOf, idOf, Option.getD_some, Option.getD_none, Op.operands, Call.operands, V.idsL, V.ids, idsL_t, List.append_nil, List.nil_append, List.cons_append, List.toList_toArray, List.map_toArray, List.size_toArray, List.append_toArray, ev_tmp, ev_const, ev_func, upd_at, slots_cons, slots_nil, objs_cons, objs_nil, Nat.reduceLT, Nat.reduceEqDiff, Nat.reduceAdd, reduceIte, if_true, if_false, ofVal, ofS, noOb, reduceCtorEq, List.take_succ_cons, List.take_zero, List.drop_succ_cons, List.drop_zero, List.take_nil, List.drop_nil, List.nil_append, List.cons_append, List.append_nil, List.length_cons, List.length_nil, List.head?_cons, List.map_cons, List.map_nil, Nat.reduceAdd, Nat.zero_add, List.length_map, hgl, hgr, Core.row_len, Core.take, List.length_map]; rfl) ?_
                  refine r_fieldAddr rfl yF29_6e (by conv => lhs; whnf) (by conv => lhs; whnf) (by simp only [fpOf, idOf, Option.getD_some, Option.getD_none, Op.operands, Call.operands, V.idsL, V.ids, idsL_t, List.append_nil, List.nil_append, List.cons_append, List.toList_toArray, List.map_toArray, List.size_toArray, List.append_toArray, ev_tmp, ev_const, ev_func, upd_at, slots_cons, slots_nil, objs_cons, objs_nil, Nat.reduceLT, Nat.reduceEqDiff, Nat.reduceAdd, reduceIte, if_true, if_false, ofVal, ofS, noOb, reduceCtorEq, List.take_succ_cons, List.take_zero, List.drop_succ_cons, List.drop_zero, List.take_nil, List.drop_nil, List.nil_append, List.cons_append, List.append_nil, List.length_cons, List.length_nil, List.head?_cons, List.map_cons, List.map_nil, Nat.reduceAdd, Nat.zero_add, List.length_map, hgl, hgr, Core.row_len, Core.take, List.length_map]; rfl) ?_
                  refine r_load1 rfl yA27e (by conv => lhs; whnf) (by conv => lhs; whnf) (by (try simp only [hgl, hgr, Core.row_len, Core.take, List.length_map, List.take_succ_cons, List.take_zero, List.drop_succ_cons, List.drop_zero, List.take_nil, List.drop_nil, List.nil_append, List.cons_append, List.append_nil, List.length_cons, List.length_nil, List.head?_cons, List.map_cons, List.map_nil, Nat.reduceAdd, Nat.zero_add, List.length_map]); rfl) (by simp only [fpOf, idOf, Option.getD_some, Option.getD_none, Op.operands, Call.operands, V.idsL, V.ids, idsL_t, List.append_nil, List.nil_append, List.cons_append, List.toList_toArray, List.map_toArray, List.size_toArray, List.append_toArray, ev_tmp, ev_const, ev_func, upd_at, slots_cons, slots_nil, objs_cons, objs_nil, Nat.reduceLT, Nat.reduceEqDiff, Nat.reduceAdd, reduceIte, if_true, if_false, ofVal, ofS, noOb, reduceCtorEq, List.take_succ_cons, List.take_zero, List.drop_succ_cons, List.drop_zero, List.take_nil, List.drop_nil, List.nil_append, List.cons_append, List.append_nil, List.length_cons, List.length_nil, List.head?_cons, List.map_cons, List.map_nil, Nat.reduceAdd, Nat.zero_add, List.length_map, hgl, hgr, Core.row_len, Core.take, List.length_map]; rfl) ?_
                  refine r_move rfl (by conv => lhs; whnf) (by simp only [fpOf, idOf, Option.getD_some, Option.getD_none, Op.operands, Call.operands, V.idsL, V.ids, idsL_t, List.append_nil, List.nil_append, List.cons_append, List.toList_toArray, List.map_toArray, List.size_toArray, List.append_toArray, ev_tmp, ev_const, ev_func, upd_at, slots_cons, slots_nil, objs_cons, objs_nil, Nat.reduceLT, Nat.reduceEqDiff, Nat.reduceAdd, reduceIte, if_true, if_false, ofVal, ofS, noOb, reduceCtorEq, List.take_succ_cons, List.take_zero, List.drop_succ_cons, List.drop_zero, List.take_nil, List.drop_nil, List.nil_append, List.cons_append, List.append_nil, List.length_cons, List.length_nil, List.head?_cons, List.map_cons, List.map_nil, Nat.reduceAdd, Nat.zero_add, List.length_map, hgl, hgr, Core.row_len, Core.take, List.length_map]; rfl) ?_
                  refine r_indexAddr rfl yE27e (by conv => lhs; whnf) (by conv => lhs; whnf) (by omega) (by simp only [hgl, hgr, Core.row_len, Core.take, List.length_map, indexP, ev_tmp, ev_const, ev_func, upd_at, slots_cons, slots_nil, objs_cons, objs_nil, Nat.reduceLT, Nat.reduceEqDiff, Nat.reduceAdd, reduceIte, if_true, if_false, ofVal, ofS, noOb, reduceCtorEq]; rfl) (by simp only [fpOf, idOf, Option.getD_some, Option.getD_none, Op.operands, Call.operands, V.idsL, V.ids, idsL_t, List.append_nil, List.nil_append, List.cons_append, List.toList_toArray, List.map_toArray, List.size_toArray, List.append_toArray, ev_tmp, ev_const, ev_func, upd_at, slots_cons, slots_nil, objs_cons, objs_nil, Nat.reduceLT, Nat.reduceEqDiff, Nat.reduceAdd, reduceIte, if_true, if_false, ofVal, ofS, noOb, reduceCtorEq, List.take_succ_cons, List.take_zero, List.drop_succ_cons, List.drop_zero, List.take_nil, List.drop_nil, List.nil_append, List.cons_append, List.append_nil, List.length_cons, List.length_nil, List.head?_cons, List.map_cons, List.map_nil, Nat.reduceAdd, Nat.zero_add, List.length_map, hgl, hgr, Core.row_len, Core.take, List.length_map]; rfl) ?_
                  refine r_loadN rfl yA29e yS29e (by conv => lhs; whnf) (by conv => lhs; whnf) (by simp only [hgl, hgr, Core.row_len, Core.take, List.length_map, List.take_succ_cons, List.take_zero, List.drop_succ_cons, List.drop_zero, List.take_nil, List.drop_nil, List.nil_append, List.cons_append, List.append_nil, List.length_cons, List.length_nil, List.head?_cons, List.map_cons, List.map_nil, Nat.reduceAdd, Nat.zero_add, List.length_map]; omega) (by (try simp only [hgl, hgr, Core.row_len, Core.take, List.length_map, List.take_succ_cons, List.take_zero, List.drop_succ_cons, List.drop_zero, List.take_nil, List.drop_nil, List.nil_append, List.cons_append, List.append_nil, List.length_cons, List.length_nil, List.head?_cons, List.map_cons, List.map_nil, Nat.reduceAdd, Nat.zero_add, List.length_map]); rfl) (by simp only [fpOf, idOf, Option.getD_some, Option.getD_none, Op.operands, Call.operands, V.idsL, V.ids, idsL_t, List.append_nil, List.nil_append, List.cons_append, List.toList_toArray, List.map_toArray, List.size_toArray, List.append_toArray, ev_tmp, ev_const, ev_func, upd_at, slots_cons, slots_nil, objs_cons, objs_nil, Nat.reduceLT, Nat.reduceEqDiff, Nat.reduceAdd, reduceIte, if_true, if_false, ofVal, ofS, noOb, reduceCtorEq, List.take_succ_cons, List.take_zero, List.drop_succ_cons, List.drop_zero, List.take_nil, List.drop_nil, List.nil_append, List.cons_append, List.append_nil, List.length_cons, List.length_nil, List.head?_cons, List.map_cons, List.map_nil, Nat.reduceAdd, Nat.zero_add, List.length_map, hgl, hgr, Core.row_len, Core.take, List.length_map]; rfl) ?_
                  refine r_pure [] rfl rfl rfl (by conv => lhs; whnf) (by simp only [hgl, hgr, Core.row_len, Core.take, List.length_map, ev_tmp, ev_const, ev_func, upd_at, slots_cons, slots_nil, objs_cons, objs_nil, Nat.reduceLT, Nat.reduceEqDiff, Nat.reduceAdd, reduceIte, if_true, if_false, ofVal, ofS, noOb, reduceCtorEq, List.take_succ_cons, List.take_zero, List.drop_succ_cons, List.drop_zero, List.take_nil, List.drop_nil, List.nil_append, List.cons_append, List.append_nil, List.length_cons, List.length_nil, List.head?_cons, List.map_cons, List.map_nil, Nat.reduceAdd, Nat.zero_add, List.length_map, List.toList_toArray]; rfl) (by simp only [hgl, hgr, Core.row_len, Core.take, List.length_map, fzU, ev_tmp, ev_const, ev_func, upd_at, slots_cons, slots_nil, objs_cons, objs_nil, Nat.reduceLT, Nat.reduceEqDiff, Nat.reduceAdd, reduceIte, if_true, if_false, ofVal, ofS, noOb, reduceCtorEq]; rfl) (by simp only [app]; rfl) (hkid) (by exact ⟨(by first | exact pass_id rfl | exact pass_id (ids_row _) | exact .inr (.inl ⟨_, rfl, rfl, by simp [fz]⟩) | exact .inr (.inr ⟨_, _, rfl, rfl, rfl, by simp [fz]⟩)), (by first | exact pass_id rfl | exact pass_id (ids_row _) | exact .inr (.inl ⟨_, rfl, rfl, by simp [fz]⟩) | exact .inr (.inr ⟨_, _, rfl, rfl, rfl, by simp [fz]⟩)), trivial⟩) (by simp only [fpOf, Op.operands, Call.operands, V.idsL, V.ids, idsL_t, List.append_nil, List.nil_append, List.cons_append, List.map_toArray, List.append_toArray, hgl, hgr, Core.row_len, Core.take, List.length_map, ev_tmp, ev_const, ev_func, upd_at, slots_cons, slots_nil, objs_cons, objs_nil, Nat.reduceLT, Nat.reduceEqDiff, Nat.reduceAdd, reduceIte, if_true, if_false, ofVal, ofS, noOb, reduceCtorEq, List.take_succ_cons, List.take_zero, List.drop_succ_cons, List.drop_zero, List.take_nil, List.drop_nil, List.nil_append, List.cons_append, List.append_nil, List.length_cons, List.length_nil, List.head?_cons, List.map_cons, List.map_nil, Nat.reduceAdd, Nat.zero_add, List.length_map]; rfl) ?_
                  refine r_un rfl (by conv => lhs; whnf) (by conv => lhs; whnf) (by simp only [fpOf, idOf, Option.getD_some, Option.getD_none, Op.operands, Call.operands, V.idsL, V.ids, idsL_t, List.append_nil, List.nil_append, List.cons_append, List.toList_toArray, List.map_toArray, List.size_toArray, List.append_toArray, ev_tmp, ev_const, ev_func, upd_at, slots_cons, slots_nil, objs_cons, objs_nil, Nat.reduceLT, Nat.reduceEqDiff, Nat.reduceAdd, reduceIte, if_true, if_false, ofVal, ofS, noOb, reduceCtorEq, List.take_succ_cons, List.take_zero, List.drop_succ_cons, List.drop_zero, List.take_nil, List.drop_nil, List.nil_append, List.cons_append, List.append_nil, List.length_cons, List.length_nil, List.head?_cons, List.map_cons, List.map_nil, Nat.reduceAdd, Nat.zero_add, List.length_map, hgl, hgr, Core.row_len, Core.take, List.length_map]; rfl) ?_
                  refine k_nilD (by simp only [List.reverse_cons, List.reverse_nil, List.nil_append, List.cons_append]; kernel_rfl) ?_
                  refine k_seq ?_
                  refine awp_cond rfl (fun hc => ?_) (fun hc => ?_)
                  · have hne : eqb kids z_kids = false := (eqb_not _ _).2 (fun e => by subst e; simp [eqb] at hc)
                    refine awp_seq ?_
                    refine awp_region ?_
                    refine r_assign rfl (by conv => lhs; whnf) rfl ?_
                    refine k_nil ?_
                    refine k_seq ?_
                    refine awp_ret ?_
                    refine k_blk_ret ?_
                    refine k_seq_ret ?_
                    refine k_rnd_ret ?_
                    refine k_blk_ret ?_
                    refine k_seq_ret ?_
                    refine k_fin ?_
                    refine ends_pure [] (by simp only [Try.results18, resOf, hgl, hgr, Core.row_len, Core.take, List.length_map, ev_tmp, ev_const, ev_func, upd_at, slots_cons, slots_nil, objs_cons, objs_nil, Nat.reduceLT, Nat.reduceEqDiff, Nat.reduceAdd, reduceIte, if_true, if_false, ofVal, ofS, noOb, reduceCtorEq]; rfl) (by rw [hne]; exact ⟨give_id _, trivial⟩) (by simp [V.idsL, V.ids])
                  · have he : kids[j] = z_kids[j] := by simpa [eqb] using hc
                    refine awp_skip ?_
                    refine k_blk ?_
                    refine k_seq ?_
                    refine awp_region ?_
                    refine r_move rfl (by conv => lhs; whnf) rfl ?_
                    refine r_bin rfl (by conv => lhs; whnf) (by conv => lhs; whnf) (by simp only [hgl, hgr, Core.row_len, Core.take, List.length_map, abin, reduceIte, ne_eq, decide_not, Bool.not_true, Bool.not_false]; rfl) rfl ?_
                    refine r_assign rfl (by conv => lhs; whnf) rfl ?_
                    refine k_nil ?_
                    refine k_rnd (j + 1) ⟨hlt, by rw [List.take_succ_eq_append_getElem hlt, List.take_succ_eq_append_getElem hlt2, htk, he]⟩ (by show kids.length - (j + 1) < kids.length - j; omega) (by repeat (first | exact off_frame _ _ _ | exact off_refl _ _ | refine off_upd rfl ?_ | refine off_sub rfl ?_)) (by repeat (first | exact off_frame _ _ _ | exact off_refl _ _ | refine off_upd rfl ?_ | refine off_sub rfl ?_)) (hasF_cons (by conv => lhs; whnf) (by rw [hw1]; push_cast; rfl) (by first | rfl | simp [V.ids, V.idsL, idsL_t, Ob.ids]) trivial) trivial
                · have hje : j = kids.length := by have := of_decide_eq_false hc; omega
                  have he : eqb kids z_kids = true := (eqb_iff _ _).2 (by rw [hje, List.take_length, hlen, List.take_length] at htk; exact htk)
                  refine awp_exit ?_
                  refine k_seq_exit ?_
                  refine k_rnd_exit ?_
                  refine k_blk_exit ?_
                  refine k_seq ?_
                  refine awp_seq ?_
                  refine awp_region ?_
                  refine r_assign rfl (by conv => lhs; whnf) rfl ?_
                  refine k_nil ?_
                  refine k_seq ?_
                  refine awp_ret ?_
                  refine k_fin ?_
                  refine ends_pure [] (by simp only [Try.results18, resOf, List.length_map, ev_tmp, ev_const, ev_func, upd_at, slots_cons, slots_nil, objs_cons, objs_nil, Nat.reduceLT, Nat.reduceEqDiff, Nat.reduceAdd, reduceIte, if_true, if_false, ofVal, ofS, noOb, reduceCtorEq]; rfl) (by rw [he]; exact ⟨give_id _, trivial⟩) (by simp [V.idsL, V.ids])
            · rw [hg10]
              refine r_fieldAddr rfl yF29_5e (by conv => lhs; whnf) (by conv => lhs; whnf) rfl ?_
              refine r_loadN rfl yA26e yS26e (by conv => lhs; whnf) (by conv => lhs; whnf) (by simp only [List.take_succ_cons, List.take_zero, List.drop_succ_cons, List.drop_zero, List.take_nil, List.drop_nil, List.nil_append, List.cons_append, List.append_nil, List.length_cons, List.length_nil, List.head?_cons, List.map_cons, List.map_nil, Nat.reduceAdd, Nat.zero_add, List.length_map]; omega) (by (try simp only [List.take_succ_cons, List.take_zero, List.drop_succ_cons, List.drop_zero, List.take_nil, List.drop_nil, List.nil_append, List.cons_append, List.append_nil, List.length_cons, List.length_nil, List.head?_cons, List.map_cons, List.map_nil, Nat.reduceAdd, Nat.zero_add, List.length_map]); rfl) rfl ?_
              refine r_fieldAddr rfl yF29_5e (by conv => lhs; whnf) (by conv => lhs; whnf) rfl ?_
              refine r_loadN rfl yA26e yS26e (by conv => lhs; whnf) (by conv => lhs; whnf) (by simp only [List.take_succ_cons, List.take_zero, List.drop_succ_cons, List.drop_zero, List.take_nil, List.drop_nil, List.nil_append, List.cons_append, List.append_nil, List.length_cons, List.length_nil, List.head?_cons, List.map_cons, List.map_nil, Nat.reduceAdd, Nat.zero_add, List.length_map]; omega) (by (try simp only [List.take_succ_cons, List.take_zero, List.drop_succ_cons, List.drop_zero, List.take_nil, List.drop_nil, List.nil_append, List.cons_append, List.append_nil, List.length_cons, List.length_nil, List.head?_cons, List.map_cons, List.map_nil, Nat.reduceAdd, Nat.zero_add, List.length_map]); rfl) rfl ?_
              have hk12 := specFormSame_ok (Form.mk data_kind data_name data_n data_scopes data_kids) (Form.mk z_data_kind z_data_name z_data_n z_data_scopes z_data_kids) (by rw [Form.row_mk]; simp only [T.wtL, T.wt, S.wt, T.wtR_ints, List.length_map]; omega) (by rw [Form.row_mk]; simp only [T.wtL, T.wt, S.wt, T.wtR_ints, List.length_map]; omega)
              rw [Form.row_mk, Form.row_mk] at hk12
              refine r_pure [] rfl rfl rfl (by conv => lhs; whnf) (by simp only [ev_tmp, ev_const, ev_func, upd_at, slots_cons, slots_nil, objs_cons, objs_nil, Nat.reduceLT, Nat.reduceEqDiff, Nat.reduceAdd, reduceIte, if_true, if_false, ofVal, ofS, noOb, reduceCtorEq, List.take_succ_cons, List.take_zero, List.drop_succ_cons, List.drop_zero, List.take_nil, List.drop_nil, List.nil_append, List.cons_append, List.append_nil, List.length_cons, List.length_nil, List.head?_cons, List.map_cons, List.map_nil, Nat.reduceAdd, Nat.zero_add, List.length_map, List.toList_toArray]; rfl) (by simp only [fzU, ev_tmp, ev_const, ev_func, upd_at, slots_cons, slots_nil, objs_cons, objs_nil, Nat.reduceLT, Nat.reduceEqDiff, Nat.reduceAdd, reduceIte, if_true, if_false, ofVal, ofS, noOb, reduceCtorEq]; rfl) (by simp only [app]; rfl) (hk12) (by exact ⟨(by first | exact pass_id rfl | exact pass_id (ids_row _) | exact .inr (.inl ⟨_, rfl, rfl, by simp [fz]⟩) | exact .inr (.inr ⟨_, _, rfl, rfl, rfl, by simp [fz]⟩)), (by first | exact pass_id rfl | exact pass_id (ids_row _) | exact .inr (.inl ⟨_, rfl, rfl, by simp [fz]⟩) | exact .inr (.inr ⟨_, _, rfl, rfl, rfl, by simp [fz]⟩)), trivial⟩) rfl ?_
              refine r_un rfl (by conv => lhs; whnf) (by conv => lhs; whnf) rfl ?_
              refine r_pick rfl (by conv => lhs; whnf) (by conv => lhs; whnf) rfl ?_
              refine r_move rfl (by conv => lhs; whnf) rfl ?_
              refine g_split (d := 48) (by conv => lhs; whnf) (fun hg13 => ?_) (fun hg13 => ?_)
              · rw [hg13]
                refine r_no rfl ?_
                refine r_no rfl ?_
                refine r_no rfl ?_
                refine r_no rfl ?_
                refine r_no rfl ?_
                refine r_no rfl ?_
                refine r_no rfl ?_
                refine r_pick rfl (by conv => lhs; whnf) (by conv => lhs; whnf) rfl ?_
                refine k_nil ?_
                refine k_seq ?_
                refine awp_cond rfl (fun hg14 => ?_) (fun hg14 => ?_)
                · refine awp_seq ?_
                  refine awp_region ?_
                  refine r_assign rfl (by conv => lhs; whnf) rfl ?_
                  refine k_nil ?_
                  refine k_seq ?_
                  refine awp_ret ?_
                  refine k_seq_ret ?_
                  refine k_fin ?_
                  refine ends_pure [] (by simp only [Try.results18, resOf, ev_tmp, ev_const, ev_func, upd_at, slots_cons, slots_nil, objs_cons, objs_nil, Nat.reduceLT, Nat.reduceEqDiff, Nat.reduceAdd, reduceIte, if_true, if_false, ofVal, ofS, noOb, reduceCtorEq]; rfl) (by
                    refine ⟨.inl (congrArg (fun b => V.t (.sc (.bool b))) ?_), trivial⟩
                    rw [Bool.eq_iff_iff]
                    simp only [eqb_iff, Bool.false_eq_true, decide_eq_true_eq, Core.mk.injEq, Form.mk.injEq, Step.mk.injEq, Bind.mk.injEq, Hit.mk.injEq, Rule.mk.injEq, Macro.mk.injEq, Expansion.mk.injEq]
                    simp_all [eqb_iff, eqb_not, -List.map_inj_left] <;> (try (intro e; subst e; simp_all))) (by simp [V.idsL, V.ids])
                · refine awp_skip ?_
                  refine k_seq ?_
                  refine awp_seq ?_
                  refine awp_seq ?_
                  refine awp_region ?_
                  refine r_assign rfl (by conv => lhs; whnf) rfl ?_
                  refine k_nil ?_
                  refine k_seq ?_
                  refine awp_block ?_
                  have hAll : kind = z_kind ∧ id = z_id ∧ name = z_name ∧ n = z_n ∧ ids = z_ids ∧ data_kind = z_data_kind ∧ data_name = z_data_name ∧ data_n = z_data_n ∧ data_scopes = z_data_scopes ∧ data_kids = z_data_kids ∧ kids.length = z_kids.length := by simp_all [eqb_iff, eqb_not] <;> omega
                  obtain ⟨rfl, rfl, rfl, rfl, rfl, rfl, rfl, rfl, rfl, rfl, hlen⟩ := hAll
                  skip
                  have hred : eqb (Core.mk kind id name n ids (Form.mk data_kind data_name data_n data_scopes data_kids) kids) (Core.mk kind id name n ids (Form.mk data_kind data_name data_n data_scopes data_kids) z_kids) = eqb kids z_kids := by rw [Bool.eq_iff_iff]; simp [eqb_iff]
                  rw [hred]
                  refine awp_frame [4, 5, 57, 58, 59, 60, 61, 62, 63, 64, 65, 66, 67, 68, 69, 70, 71, 72, 73, 74, 75] [] [] (fun j : Nat => kids.length - j) (fun j : Nat => [(5, vi j)]) (fun j : Nat => []) (fun j => j ≤ kids.length ∧ kids.take j = z_kids.take j) 0 ⟨Nat.zero_le _, by simp⟩ (by rfl) (by rfl) (fun _ => rfl) (hasF_cons (by conv => lhs; whnf) (by first | rfl | simp) (by first | rfl | simp [V.ids, V.idsL, idsL_t, Ob.ids]) trivial) trivial ?_
                  rintro j ⟨hj, htk⟩
                  refine awp_seq ?_
                  refine awp_seq ?_
                  refine awp_region ?_
                  refine r_move rfl (by conv => lhs; whnf) rfl ?_
                  refine r_fieldAddr rfl yF29_6e (by conv => lhs; whnf) (by conv => lhs; whnf) rfl ?_
                  refine r_load1 rfl yA27e (by conv => lhs; whnf) (by conv => lhs; whnf) (by (try simp only [List.length_map, List.take_succ_cons, List.take_zero, List.drop_succ_cons, List.drop_zero, List.take_nil, List.drop_nil, List.nil_append, List.cons_append, List.append_nil, List.length_cons, List.length_nil, List.head?_cons, List.map_cons, List.map_nil, Nat.reduceAdd, Nat.zero_add, List.length_map]); rfl) rfl ?_
                  refine r_len rfl yU27e (by conv => lhs; whnf) (by conv => lhs; whnf) rfl ?_
                  refine r_bin rfl (by conv => lhs; whnf) (by conv => lhs; whnf) (by simp only [List.length_map, abin, reduceIte, ne_eq, decide_not, Bool.not_true, Bool.not_false]; rfl) rfl ?_
                  refine k_nil ?_
                  refine k_seq ?_
                  refine awp_cond rfl (fun hc => ?_) (fun hc => ?_)
                  · have hlt : j < kids.length := by have := of_decide_eq_true hc; omega
                    have hlt2 : j < z_kids.length := by omega
                    have hgl := map_get Core.row kids j hlt
                    have hgr := map_get Core.row z_kids j hlt2
                    have hw1 := IntWalk.i64_in ((j : Int) + 1) (by omega)
                    clear hc
                    have hle := T.wtR_le Core.row kids (j + 1)
                    have hsucc := T.wtR_succ Core.row kids j hlt
                    have hle2 := T.wtR_le Core.row z_kids (j + 1)
                    have hsucc2 := T.wtR_succ Core.row z_kids j hlt2
                    have hmem : kids[j] ∈ kids := List.getElem_mem hlt
                    have hkid := specCoreSame_ok kids[j] z_kids[j] (by omega) (by omega)
                    refine awp_skip ?_
                    refine k_seq ?_
                    refine awp_seq ?_
                    refine awp_block ?_
                    refine awp_seq ?_
                    refine awp_draw yMixe (by kernel_rfl) ?_
                    refine r_fieldAddr rfl yF29_6e (by conv => lhs; whnf) (by conv => lhs; whnf) (by simp only [fpOf, idOf, Option.getD_some, Option.getD_none, Op.operands, Call.operands, V.idsL, V.ids, idsL_t, List.append_nil, List.nil_append, List.cons_append, List.toList_toArray, List.map_toArray, List.size_toArray, List.append_toArray, ev_tmp, ev_const, ev_func, upd_at, slots_cons, slots_nil, objs_cons, objs_nil, Nat.reduceLT, Nat.reduceEqDiff, Nat.reduceAdd, reduceIte, if_true, if_false, ofVal, ofS, noOb, reduceCtorEq, List.take_succ_cons, List.take_zero, List.drop_succ_cons, List.drop_zero, List.take_nil, List.drop_nil, List.nil_append, List.cons_append, List.append_nil, List.length_cons, List.length_nil, List.head?_cons, List.map_cons, List.map_nil, Nat.reduceAdd, Nat.zero_add, List.length_map, hgl, hgr, Core.row_len, Core.take, List.length_map]; rfl) ?_
                    refine r_load1 rfl yA27e (by conv => lhs; whnf) (by conv => lhs; whnf) (by (try simp only [hgl, hgr, Core.row_len, Core.take, List.length_map, List.take_succ_cons, List.take_zero, List.drop_succ_cons, List.drop_zero, List.take_nil, List.drop_nil, List.nil_append, List.cons_append, List.append_nil, List.length_cons, List.length_nil, List.head?_cons, List.map_cons, List.map_nil, Nat.reduceAdd, Nat.zero_add, List.length_map]); rfl) (by simp only [fpOf, idOf, Option.getD_some, Option.getD_none, Op.operands, Call.operands, V.idsL, V.ids, idsL_t, List.append_nil, List.nil_append, List.cons_append, List.toList_toArray, List.map_toArray, List.size_toArray, List.append_toArray, ev_tmp, ev_const, ev_func, upd_at, slots_cons, slots_nil, objs_cons, objs_nil, Nat.reduceLT, Nat.reduceEqDiff, Nat.reduceAdd, reduceIte, if_true, if_false, ofVal, ofS, noOb, reduceCtorEq, List.take_succ_cons, List.take_zero, List.drop_succ_cons, List.drop_zero, List.take_nil, List.drop_nil, List.nil_append, List.cons_append, List.append_nil, List.length_cons, List.length_nil, List.head?_cons, List.map_cons, List.map_nil, Nat.reduceAdd, Nat.zero_add, List.length_map, hgl, hgr, Core.row_len, Core.take, List.length_map]; rfl) ?_
                    refine r_move rfl (by conv => lhs; whnf) (by simp only [fpOf, idOf, Option.getD_some, Option.getD_none, Op.operands, Call.operands, V.idsL, V.ids, idsL_t, List.append_nil, List.nil_append, List.cons_append, List.toList_toArray, List.map_toArray, List.size_toArray, List.append_toArray, ev_tmp, ev_const, ev_func, upd_at, slots_cons, slots_nil, objs_cons, objs_nil, Nat.reduceLT, Nat.reduceEqDiff, Nat.reduceAdd, reduceIte, if_true, if_false, ofVal, ofS, noOb, reduceCtorEq, List.take_succ_cons, List.take_zero, List.drop_succ_cons, List.drop_zero, List.take_nil, List.drop_nil, List.nil_append, List.cons_append, List.append_nil, List.length_cons, List.length_nil, List.head?_cons, List.map_cons, List.map_nil, Nat.reduceAdd, Nat.zero_add, List.length_map, hgl, hgr, Core.row_len, Core.take, List.length_map]; rfl) ?_
                    refine r_indexAddr rfl yE27e (by conv => lhs; whnf) (by conv => lhs; whnf) (by omega) (by simp only [hgl, hgr, Core.row_len, Core.take, List.length_map, indexP, ev_tmp, ev_const, ev_func, upd_at, slots_cons, slots_nil, objs_cons, objs_nil, Nat.reduceLT, Nat.reduceEqDiff, Nat.reduceAdd, reduceIte, if_true, if_false, ofVal, ofS, noOb, reduceCtorEq]; rfl) (by simp only [fpOf, idOf, Option.getD_some, Option.getD_none, Op.operands, Call.operands, V.idsL, V.ids, idsL_t, List.append_nil, List.nil_append, List.cons_append, List.toList_toArray, List.map_toArray, List.size_toArray, List.append_toArray, ev_tmp, ev_const, ev_func, upd_at, slots_cons, slots_nil, objs_cons, objs_nil, Nat.reduceLT, Nat.reduceEqDiff, Nat.reduceAdd, reduceIte, if_true, if_false, ofVal, ofS, noOb, reduceCtorEq, List.take_succ_cons, List.take_zero, List.drop_succ_cons, List.drop_zero, List.take_nil, List.drop_nil, List.nil_append, List.cons_append, List.append_nil, List.length_cons, List.length_nil, List.head?_cons, List.map_cons, List.map_nil, Nat.reduceAdd, Nat.zero_add, List.length_map, hgl, hgr, Core.row_len, Core.take, List.length_map]; rfl) ?_
                    refine r_loadN rfl yA29e yS29e (by conv => lhs; whnf) (by conv => lhs; whnf) (by simp only [hgl, hgr, Core.row_len, Core.take, List.length_map, List.take_succ_cons, List.take_zero, List.drop_succ_cons, List.drop_zero, List.take_nil, List.drop_nil, List.nil_append, List.cons_append, List.append_nil, List.length_cons, List.length_nil, List.head?_cons, List.map_cons, List.map_nil, Nat.reduceAdd, Nat.zero_add, List.length_map]; omega) (by (try simp only [hgl, hgr, Core.row_len, Core.take, List.length_map, List.take_succ_cons, List.take_zero, List.drop_succ_cons, List.drop_zero, List.take_nil, List.drop_nil, List.nil_append, List.cons_append, List.append_nil, List.length_cons, List.length_nil, List.head?_cons, List.map_cons, List.map_nil, Nat.reduceAdd, Nat.zero_add, List.length_map]); rfl) (by simp only [fpOf, idOf, Option.getD_some, Option.getD_none, Op.operands, Call.operands, V.idsL, V.ids, idsL_t, List.append_nil, List.nil_append, List.cons_append, List.toList_toArray, List.map_toArray, List.size_toArray, List.append_toArray, ev_tmp, ev_const, ev_func, upd_at, slots_cons, slots_nil, objs_cons, objs_nil, Nat.reduceLT, Nat.reduceEqDiff, Nat.reduceAdd, reduceIte, if_true, if_false, ofVal, ofS, noOb, reduceCtorEq, List.take_succ_cons, List.take_zero, List.drop_succ_cons, List.drop_zero, List.take_nil, List.drop_nil, List.nil_append, List.cons_append, List.append_nil, List.length_cons, List.length_nil, List.head?_cons, List.map_cons, List.map_nil, Nat.reduceAdd, Nat.zero_add, List.length_map, hgl, hgr, Core.row_len, Core.take, List.length_map]; rfl) ?_
                    refine r_fieldAddr rfl yF29_6e (by conv => lhs; whnf) (by conv => lhs; whnf) (by simp only [fpOf, idOf, Option.getD_some, Option.getD_none, Op.operands, Call.operands, V.idsL, V.ids, idsL_t, List.append_nil, List.nil_append, List.cons_append, List.toList_toArray, List.map_toArray, List.size_toArray, List.append_toArray, ev_tmp, ev_const, ev_func, upd_at, slots_cons, slots_nil, objs_cons, objs_nil, Nat.reduceLT, Nat.reduceEqDiff, Nat.reduceAdd, reduceIte, if_true, if_false, ofVal, ofS, noOb, reduceCtorEq, List.take_succ_cons, List.take_zero, List.drop_succ_cons, List.drop_zero, List.take_nil, List.drop_nil, List.nil_append, List.cons_append, List.append_nil, List.length_cons, List.length_nil, List.head?_cons, List.map_cons, List.map_nil, Nat.reduceAdd, Nat.zero_add, List.length_map, hgl, hgr, Core.row_len, Core.take, List.length_map]; rfl) ?_
                    refine r_load1 rfl yA27e (by conv => lhs; whnf) (by conv => lhs; whnf) (by (try simp only [hgl, hgr, Core.row_len, Core.take, List.length_map, List.take_succ_cons, List.take_zero, List.drop_succ_cons, List.drop_zero, List.take_nil, List.drop_nil, List.nil_append, List.cons_append, List.append_nil, List.length_cons, List.length_nil, List.head?_cons, List.map_cons, List.map_nil, Nat.reduceAdd, Nat.zero_add, List.length_map]); rfl) (by simp only [fpOf, idOf, Option.getD_some, Option.getD_none, Op.operands, Call.operands, V.idsL, V.ids, idsL_t, List.append_nil, List.nil_append, List.cons_append, List.toList_toArray, List.map_toArray, List.size_toArray, List.append_toArray, ev_tmp, ev_const, ev_func, upd_at, slots_cons, slots_nil, objs_cons, objs_nil, Nat.reduceLT, Nat.reduceEqDiff, Nat.reduceAdd, reduceIte, if_true, if_false, ofVal, ofS, noOb, reduceCtorEq, List.take_succ_cons, List.take_zero, List.drop_succ_cons, List.drop_zero, List.take_nil, List.drop_nil, List.nil_append, List.cons_append, List.append_nil, List.length_cons, List.length_nil, List.head?_cons, List.map_cons, List.map_nil, Nat.reduceAdd, Nat.zero_add, List.length_map, hgl, hgr, Core.row_len, Core.take, List.length_map]; rfl) ?_
                    refine r_move rfl (by conv => lhs; whnf) (by simp only [fpOf, idOf, Option.getD_some, Option.getD_none, Op.operands, Call.operands, V.idsL, V.ids, idsL_t, List.append_nil, List.nil_append, List.cons_append, List.toList_toArray, List.map_toArray, List.size_toArray, List.append_toArray, ev_tmp, ev_const, ev_func, upd_at, slots_cons, slots_nil, objs_cons, objs_nil, Nat.reduceLT, Nat.reduceEqDiff, Nat.reduceAdd, reduceIte, if_true, if_false, ofVal, ofS, noOb, reduceCtorEq, List.take_succ_cons, List.take_zero, List.drop_succ_cons, List.drop_zero, List.take_nil, List.drop_nil, List.nil_append, List.cons_append, List.append_nil, List.length_cons, List.length_nil, List.head?_cons, List.map_cons, List.map_nil, Nat.reduceAdd, Nat.zero_add, List.length_map, hgl, hgr, Core.row_len, Core.take, List.length_map]; rfl) ?_
                    refine r_indexAddr rfl yE27e (by conv => lhs; whnf) (by conv => lhs; whnf) (by omega) (by simp only [hgl, hgr, Core.row_len, Core.take, List.length_map, indexP, ev_tmp, ev_const, ev_func, upd_at, slots_cons, slots_nil, objs_cons, objs_nil, Nat.reduceLT, Nat.reduceEqDiff, Nat.reduceAdd, reduceIte, if_true, if_false, ofVal, ofS, noOb, reduceCtorEq]; rfl) (by simp only [fpOf, idOf, Option.getD_some, Option.getD_none, Op.operands, Call.operands, V.idsL, V.ids, idsL_t, List.append_nil, List.nil_append, List.cons_append, List.toList_toArray, List.map_toArray, List.size_toArray, List.append_toArray, ev_tmp, ev_const, ev_func, upd_at, slots_cons, slots_nil, objs_cons, objs_nil, Nat.reduceLT, Nat.reduceEqDiff, Nat.reduceAdd, reduceIte, if_true, if_false, ofVal, ofS, noOb, reduceCtorEq, List.take_succ_cons, List.take_zero, List.drop_succ_cons, List.drop_zero, List.take_nil, List.drop_nil, List.nil_append, List.cons_append, List.append_nil, List.length_cons, List.length_nil, List.head?_cons, List.map_cons, List.map_nil, Nat.reduceAdd, Nat.zero_add, List.length_map, hgl, hgr, Core.row_len, Core.take, List.length_map]; rfl) ?_
                    refine r_loadN rfl yA29e yS29e (by conv => lhs; whnf) (by conv => lhs; whnf) (by simp only [hgl, hgr, Core.row_len, Core.take, List.length_map, List.take_succ_cons, List.take_zero, List.drop_succ_cons, List.drop_zero, List.take_nil, List.drop_nil, List.nil_append, List.cons_append, List.append_nil, List.length_cons, List.length_nil, List.head?_cons, List.map_cons, List.map_nil, Nat.reduceAdd, Nat.zero_add, List.length_map]; omega) (by (try simp only [hgl, hgr, Core.row_len, Core.take, List.length_map, List.take_succ_cons, List.take_zero, List.drop_succ_cons, List.drop_zero, List.take_nil, List.drop_nil, List.nil_append, List.cons_append, List.append_nil, List.length_cons, List.length_nil, List.head?_cons, List.map_cons, List.map_nil, Nat.reduceAdd, Nat.zero_add, List.length_map]); rfl) (by simp only [fpOf, idOf, Option.getD_some, Option.getD_none, Op.operands, Call.operands, V.idsL, V.ids, idsL_t, List.append_nil, List.nil_append, List.cons_append, List.toList_toArray, List.map_toArray, List.size_toArray, List.append_toArray, ev_tmp, ev_const, ev_func, upd_at, slots_cons, slots_nil, objs_cons, objs_nil, Nat.reduceLT, Nat.reduceEqDiff, Nat.reduceAdd, reduceIte, if_true, if_false, ofVal, ofS, noOb, reduceCtorEq, List.take_succ_cons, List.take_zero, List.drop_succ_cons, List.drop_zero, List.take_nil, List.drop_nil, List.nil_append, List.cons_append, List.append_nil, List.length_cons, List.length_nil, List.head?_cons, List.map_cons, List.map_nil, Nat.reduceAdd, Nat.zero_add, List.length_map, hgl, hgr, Core.row_len, Core.take, List.length_map]; rfl) ?_
                    refine r_pure [] rfl rfl rfl (by conv => lhs; whnf) (by simp only [hgl, hgr, Core.row_len, Core.take, List.length_map, ev_tmp, ev_const, ev_func, upd_at, slots_cons, slots_nil, objs_cons, objs_nil, Nat.reduceLT, Nat.reduceEqDiff, Nat.reduceAdd, reduceIte, if_true, if_false, ofVal, ofS, noOb, reduceCtorEq, List.take_succ_cons, List.take_zero, List.drop_succ_cons, List.drop_zero, List.take_nil, List.drop_nil, List.nil_append, List.cons_append, List.append_nil, List.length_cons, List.length_nil, List.head?_cons, List.map_cons, List.map_nil, Nat.reduceAdd, Nat.zero_add, List.length_map, List.toList_toArray]; rfl) (by simp only [hgl, hgr, Core.row_len, Core.take, List.length_map, fzU, ev_tmp, ev_const, ev_func, upd_at, slots_cons, slots_nil, objs_cons, objs_nil, Nat.reduceLT, Nat.reduceEqDiff, Nat.reduceAdd, reduceIte, if_true, if_false, ofVal, ofS, noOb, reduceCtorEq]; rfl) (by simp only [app]; rfl) (hkid) (by exact ⟨(by first | exact pass_id rfl | exact pass_id (ids_row _) | exact .inr (.inl ⟨_, rfl, rfl, by simp [fz]⟩) | exact .inr (.inr ⟨_, _, rfl, rfl, rfl, by simp [fz]⟩)), (by first | exact pass_id rfl | exact pass_id (ids_row _) | exact .inr (.inl ⟨_, rfl, rfl, by simp [fz]⟩) | exact .inr (.inr ⟨_, _, rfl, rfl, rfl, by simp [fz]⟩)), trivial⟩) (by simp only [fpOf, Op.operands, Call.operands, V.idsL, V.ids, idsL_t, List.append_nil, List.nil_append, List.cons_append, List.map_toArray, List.append_toArray, hgl, hgr, Core.row_len, Core.take, List.length_map, ev_tmp, ev_const, ev_func, upd_at, slots_cons, slots_nil, objs_cons, objs_nil, Nat.reduceLT, Nat.reduceEqDiff, Nat.reduceAdd, reduceIte, if_true, if_false, ofVal, ofS, noOb, reduceCtorEq, List.take_succ_cons, List.take_zero, List.drop_succ_cons, List.drop_zero, List.take_nil, List.drop_nil, List.nil_append, List.cons_append, List.append_nil, List.length_cons, List.length_nil, List.head?_cons, List.map_cons, List.map_nil, Nat.reduceAdd, Nat.zero_add, List.length_map]; rfl) ?_
                    refine r_un rfl (by conv => lhs; whnf) (by conv => lhs; whnf) (by simp only [fpOf, idOf, Option.getD_some, Option.getD_none, Op.operands, Call.operands, V.idsL, V.ids, idsL_t, List.append_nil, List.nil_append, List.cons_append, List.toList_toArray, List.map_toArray, List.size_toArray, List.append_toArray, ev_tmp, ev_const, ev_func, upd_at, slots_cons, slots_nil, objs_cons, objs_nil, Nat.reduceLT, Nat.reduceEqDiff, Nat.reduceAdd, reduceIte, if_true, if_false, ofVal, ofS, noOb, reduceCtorEq, List.take_succ_cons, List.take_zero, List.drop_succ_cons, List.drop_zero, List.take_nil, List.drop_nil, List.nil_append, List.cons_append, List.append_nil, List.length_cons, List.length_nil, List.head?_cons, List.map_cons, List.map_nil, Nat.reduceAdd, Nat.zero_add, List.length_map, hgl, hgr, Core.row_len, Core.take, List.length_map]; rfl) ?_
                    refine k_nilD (by simp only [List.reverse_cons, List.reverse_nil, List.nil_append, List.cons_append]; kernel_rfl) ?_
                    refine k_seq ?_
                    refine awp_cond rfl (fun hc => ?_) (fun hc => ?_)
                    · have hne : eqb kids z_kids = false := (eqb_not _ _).2 (fun e => by subst e; simp [eqb] at hc)
                      refine awp_seq ?_
                      refine awp_region ?_
                      refine r_assign rfl (by conv => lhs; whnf) rfl ?_
                      refine k_nil ?_
                      refine k_seq ?_
                      refine awp_ret ?_
                      refine k_blk_ret ?_
                      refine k_seq_ret ?_
                      refine k_rnd_ret ?_
                      refine k_blk_ret ?_
                      refine k_seq_ret ?_
                      refine k_fin ?_
                      refine ends_pure [] (by simp only [Try.results18, resOf, hgl, hgr, Core.row_len, Core.take, List.length_map, ev_tmp, ev_const, ev_func, upd_at, slots_cons, slots_nil, objs_cons, objs_nil, Nat.reduceLT, Nat.reduceEqDiff, Nat.reduceAdd, reduceIte, if_true, if_false, ofVal, ofS, noOb, reduceCtorEq]; rfl) (by rw [hne]; exact ⟨give_id _, trivial⟩) (by simp [V.idsL, V.ids])
                    · have he : kids[j] = z_kids[j] := by simpa [eqb] using hc
                      refine awp_skip ?_
                      refine k_blk ?_
                      refine k_seq ?_
                      refine awp_region ?_
                      refine r_move rfl (by conv => lhs; whnf) rfl ?_
                      refine r_bin rfl (by conv => lhs; whnf) (by conv => lhs; whnf) (by simp only [hgl, hgr, Core.row_len, Core.take, List.length_map, abin, reduceIte, ne_eq, decide_not, Bool.not_true, Bool.not_false]; rfl) rfl ?_
                      refine r_assign rfl (by conv => lhs; whnf) rfl ?_
                      refine k_nil ?_
                      refine k_rnd (j + 1) ⟨hlt, by rw [List.take_succ_eq_append_getElem hlt, List.take_succ_eq_append_getElem hlt2, htk, he]⟩ (by show kids.length - (j + 1) < kids.length - j; omega) (by repeat (first | exact off_frame _ _ _ | exact off_refl _ _ | refine off_upd rfl ?_ | refine off_sub rfl ?_)) (by repeat (first | exact off_frame _ _ _ | exact off_refl _ _ | refine off_upd rfl ?_ | refine off_sub rfl ?_)) (hasF_cons (by conv => lhs; whnf) (by rw [hw1]; push_cast; rfl) (by first | rfl | simp [V.ids, V.idsL, idsL_t, Ob.ids]) trivial) trivial
                  · have hje : j = kids.length := by have := of_decide_eq_false hc; omega
                    have he : eqb kids z_kids = true := (eqb_iff _ _).2 (by rw [hje, List.take_length, hlen, List.take_length] at htk; exact htk)
                    refine awp_exit ?_
                    refine k_seq_exit ?_
                    refine k_rnd_exit ?_
                    refine k_blk_exit ?_
                    refine k_seq ?_
                    refine awp_seq ?_
                    refine awp_region ?_
                    refine r_assign rfl (by conv => lhs; whnf) rfl ?_
                    refine k_nil ?_
                    refine k_seq ?_
                    refine awp_ret ?_
                    refine k_fin ?_
                    refine ends_pure [] (by simp only [Try.results18, resOf, List.length_map, ev_tmp, ev_const, ev_func, upd_at, slots_cons, slots_nil, objs_cons, objs_nil, Nat.reduceLT, Nat.reduceEqDiff, Nat.reduceAdd, reduceIte, if_true, if_false, ofVal, ofS, noOb, reduceCtorEq]; rfl) (by rw [he]; exact ⟨give_id _, trivial⟩) (by simp [V.idsL, V.ids])
              · rw [hg13]
                refine r_fieldAddr rfl yF29_6e (by conv => lhs; whnf) (by conv => lhs; whnf) rfl ?_
                refine r_load1 rfl yA27e (by conv => lhs; whnf) (by conv => lhs; whnf) (by (try simp only [List.take_succ_cons, List.take_zero, List.drop_succ_cons, List.drop_zero, List.take_nil, List.drop_nil, List.nil_append, List.cons_append, List.append_nil, List.length_cons, List.length_nil, List.head?_cons, List.map_cons, List.map_nil, Nat.reduceAdd, Nat.zero_add, List.length_map]); rfl) rfl ?_
                refine r_len rfl yU27e (by conv => lhs; whnf) (by conv => lhs; whnf) rfl ?_
                refine r_fieldAddr rfl yF29_6e (by conv => lhs; whnf) (by conv => lhs; whnf) rfl ?_
                refine r_load1 rfl yA27e (by conv => lhs; whnf) (by conv => lhs; whnf) (by (try simp only [List.take_succ_cons, List.take_zero, List.drop_succ_cons, List.drop_zero, List.take_nil, List.drop_nil, List.nil_append, List.cons_append, List.append_nil, List.length_cons, List.length_nil, List.head?_cons, List.map_cons, List.map_nil, Nat.reduceAdd, Nat.zero_add, List.length_map]); rfl) rfl ?_
                refine r_len rfl yU27e (by conv => lhs; whnf) (by conv => lhs; whnf) rfl ?_
                refine r_bin rfl (by conv => lhs; whnf) (by conv => lhs; whnf) (by simp only [abin, reduceIte, ne_eq, decide_not, Bool.not_true, Bool.not_false]; rfl) rfl ?_
                refine r_pick rfl (by conv => lhs; whnf) (by conv => lhs; whnf) rfl ?_
                refine k_nil ?_
                refine k_seq ?_
                refine awp_cond rfl (fun hg15 => ?_) (fun hg15 => ?_)
                · refine awp_seq ?_
                  refine awp_region ?_
                  refine r_assign rfl (by conv => lhs; whnf) rfl ?_
                  refine k_nil ?_
                  refine k_seq ?_
                  refine awp_ret ?_
                  refine k_seq_ret ?_
                  refine k_fin ?_
                  refine ends_pure [] (by simp only [Try.results18, resOf, ev_tmp, ev_const, ev_func, upd_at, slots_cons, slots_nil, objs_cons, objs_nil, Nat.reduceLT, Nat.reduceEqDiff, Nat.reduceAdd, reduceIte, if_true, if_false, ofVal, ofS, noOb, reduceCtorEq]; rfl) (by
                    refine ⟨.inl (congrArg (fun b => V.t (.sc (.bool b))) ?_), trivial⟩
                    rw [Bool.eq_iff_iff]
                    simp only [eqb_iff, Bool.false_eq_true, decide_eq_true_eq, Core.mk.injEq, Form.mk.injEq, Step.mk.injEq, Bind.mk.injEq, Hit.mk.injEq, Rule.mk.injEq, Macro.mk.injEq, Expansion.mk.injEq]
                    simp_all [eqb_iff, eqb_not, -List.map_inj_left] <;> (try (intro e; subst e; simp_all))) (by simp [V.idsL, V.ids])
                · refine awp_skip ?_
                  refine k_seq ?_
                  refine awp_seq ?_
                  refine awp_seq ?_
                  refine awp_region ?_
                  refine r_assign rfl (by conv => lhs; whnf) rfl ?_
                  refine k_nil ?_
                  refine k_seq ?_
                  refine awp_block ?_
                  have hAll : kind = z_kind ∧ id = z_id ∧ name = z_name ∧ n = z_n ∧ ids = z_ids ∧ data_kind = z_data_kind ∧ data_name = z_data_name ∧ data_n = z_data_n ∧ data_scopes = z_data_scopes ∧ data_kids = z_data_kids ∧ kids.length = z_kids.length := by simp_all [eqb_iff, eqb_not] <;> omega
                  obtain ⟨rfl, rfl, rfl, rfl, rfl, rfl, rfl, rfl, rfl, rfl, hlen⟩ := hAll
                  skip
                  have hred : eqb (Core.mk kind id name n ids (Form.mk data_kind data_name data_n data_scopes data_kids) kids) (Core.mk kind id name n ids (Form.mk data_kind data_name data_n data_scopes data_kids) z_kids) = eqb kids z_kids := by rw [Bool.eq_iff_iff]; simp [eqb_iff]
                  rw [hred]
                  refine awp_frame [4, 5, 57, 58, 59, 60, 61, 62, 63, 64, 65, 66, 67, 68, 69, 70, 71, 72, 73, 74, 75] [] [] (fun j : Nat => kids.length - j) (fun j : Nat => [(5, vi j)]) (fun j : Nat => []) (fun j => j ≤ kids.length ∧ kids.take j = z_kids.take j) 0 ⟨Nat.zero_le _, by simp⟩ (by rfl) (by rfl) (fun _ => rfl) (hasF_cons (by conv => lhs; whnf) (by first | rfl | simp) (by first | rfl | simp [V.ids, V.idsL, idsL_t, Ob.ids]) trivial) trivial ?_
                  rintro j ⟨hj, htk⟩
                  refine awp_seq ?_
                  refine awp_seq ?_
                  refine awp_region ?_
                  refine r_move rfl (by conv => lhs; whnf) rfl ?_
                  refine r_fieldAddr rfl yF29_6e (by conv => lhs; whnf) (by conv => lhs; whnf) rfl ?_
                  refine r_load1 rfl yA27e (by conv => lhs; whnf) (by conv => lhs; whnf) (by (try simp only [List.length_map, List.take_succ_cons, List.take_zero, List.drop_succ_cons, List.drop_zero, List.take_nil, List.drop_nil, List.nil_append, List.cons_append, List.append_nil, List.length_cons, List.length_nil, List.head?_cons, List.map_cons, List.map_nil, Nat.reduceAdd, Nat.zero_add, List.length_map]); rfl) rfl ?_
                  refine r_len rfl yU27e (by conv => lhs; whnf) (by conv => lhs; whnf) rfl ?_
                  refine r_bin rfl (by conv => lhs; whnf) (by conv => lhs; whnf) (by simp only [List.length_map, abin, reduceIte, ne_eq, decide_not, Bool.not_true, Bool.not_false]; rfl) rfl ?_
                  refine k_nil ?_
                  refine k_seq ?_
                  refine awp_cond rfl (fun hc => ?_) (fun hc => ?_)
                  · have hlt : j < kids.length := by have := of_decide_eq_true hc; omega
                    have hlt2 : j < z_kids.length := by omega
                    have hgl := map_get Core.row kids j hlt
                    have hgr := map_get Core.row z_kids j hlt2
                    have hw1 := IntWalk.i64_in ((j : Int) + 1) (by omega)
                    clear hc
                    have hle := T.wtR_le Core.row kids (j + 1)
                    have hsucc := T.wtR_succ Core.row kids j hlt
                    have hle2 := T.wtR_le Core.row z_kids (j + 1)
                    have hsucc2 := T.wtR_succ Core.row z_kids j hlt2
                    have hmem : kids[j] ∈ kids := List.getElem_mem hlt
                    have hkid := specCoreSame_ok kids[j] z_kids[j] (by omega) (by omega)
                    refine awp_skip ?_
                    refine k_seq ?_
                    refine awp_seq ?_
                    refine awp_block ?_
                    refine awp_seq ?_
                    refine awp_draw yMixe (by kernel_rfl) ?_
                    refine r_fieldAddr rfl yF29_6e (by conv => lhs; whnf) (by conv => lhs; whnf) (by simp only [fpOf, idOf, Option.getD_some, Option.getD_none, Op.operands, Call.operands, V.idsL, V.ids, idsL_t, List.append_nil, List.nil_append, List.cons_append, List.toList_toArray, List.map_toArray, List.size_toArray, List.append_toArray, ev_tmp, ev_const, ev_func, upd_at, slots_cons, slots_nil, objs_cons, objs_nil, Nat.reduceLT, Nat.reduceEqDiff, Nat.reduceAdd, reduceIte, if_true, if_false, ofVal, ofS, noOb, reduceCtorEq, List.take_succ_cons, List.take_zero, List.drop_succ_cons, List.drop_zero, List.take_nil, List.drop_nil, List.nil_append, List.cons_append, List.append_nil, List.length_cons, List.length_nil, List.head?_cons, List.map_cons, List.map_nil, Nat.reduceAdd, Nat.zero_add, List.length_map, hgl, hgr, Core.row_len, Core.take, List.length_map]; rfl) ?_
                    refine r_load1 rfl yA27e (by conv => lhs; whnf) (by conv => lhs; whnf) (by (try simp only [hgl, hgr, Core.row_len, Core.take, List.length_map, List.take_succ_cons, List.take_zero, List.drop_succ_cons, List.drop_zero, List.take_nil, List.drop_nil, List.nil_append, List.cons_append, List.append_nil, List.length_cons, List.length_nil, List.head?_cons, List.map_cons, List.map_nil, Nat.reduceAdd, Nat.zero_add, List.length_map]); rfl) (by simp only [fpOf, idOf, Option.getD_some, Option.getD_none, Op.operands, Call.operands, V.idsL, V.ids, idsL_t, List.append_nil, List.nil_append, List.cons_append, List.toList_toArray, List.map_toArray, List.size_toArray, List.append_toArray, ev_tmp, ev_const, ev_func, upd_at, slots_cons, slots_nil, objs_cons, objs_nil, Nat.reduceLT, Nat.reduceEqDiff, Nat.reduceAdd, reduceIte, if_true, if_false, ofVal, ofS, noOb, reduceCtorEq, List.take_succ_cons, List.take_zero, List.drop_succ_cons, List.drop_zero, List.take_nil, List.drop_nil, List.nil_append, List.cons_append, List.append_nil, List.length_cons, List.length_nil, List.head?_cons, List.map_cons, List.map_nil, Nat.reduceAdd, Nat.zero_add, List.length_map, hgl, hgr, Core.row_len, Core.take, List.length_map]; rfl) ?_
                    refine r_move rfl (by conv => lhs; whnf) (by simp only [fpOf, idOf, Option.getD_some, Option.getD_none, Op.operands, Call.operands, V.idsL, V.ids, idsL_t, List.append_nil, List.nil_append, List.cons_append, List.toList_toArray, List.map_toArray, List.size_toArray, List.append_toArray, ev_tmp, ev_const, ev_func, upd_at, slots_cons, slots_nil, objs_cons, objs_nil, Nat.reduceLT, Nat.reduceEqDiff, Nat.reduceAdd, reduceIte, if_true, if_false, ofVal, ofS, noOb, reduceCtorEq, List.take_succ_cons, List.take_zero, List.drop_succ_cons, List.drop_zero, List.take_nil, List.drop_nil, List.nil_append, List.cons_append, List.append_nil, List.length_cons, List.length_nil, List.head?_cons, List.map_cons, List.map_nil, Nat.reduceAdd, Nat.zero_add, List.length_map, hgl, hgr, Core.row_len, Core.take, List.length_map]; rfl) ?_
                    refine r_indexAddr rfl yE27e (by conv => lhs; whnf) (by conv => lhs; whnf) (by omega) (by simp only [hgl, hgr, Core.row_len, Core.take, List.length_map, indexP, ev_tmp, ev_const, ev_func, upd_at, slots_cons, slots_nil, objs_cons, objs_nil, Nat.reduceLT, Nat.reduceEqDiff, Nat.reduceAdd, reduceIte, if_true, if_false, ofVal, ofS, noOb, reduceCtorEq]; rfl) (by simp only [fpOf, idOf, Option.getD_some, Option.getD_none, Op.operands, Call.operands, V.idsL, V.ids, idsL_t, List.append_nil, List.nil_append, List.cons_append, List.toList_toArray, List.map_toArray, List.size_toArray, List.append_toArray, ev_tmp, ev_const, ev_func, upd_at, slots_cons, slots_nil, objs_cons, objs_nil, Nat.reduceLT, Nat.reduceEqDiff, Nat.reduceAdd, reduceIte, if_true, if_false, ofVal, ofS, noOb, reduceCtorEq, List.take_succ_cons, List.take_zero, List.drop_succ_cons, List.drop_zero, List.take_nil, List.drop_nil, List.nil_append, List.cons_append, List.append_nil, List.length_cons, List.length_nil, List.head?_cons, List.map_cons, List.map_nil, Nat.reduceAdd, Nat.zero_add, List.length_map, hgl, hgr, Core.row_len, Core.take, List.length_map]; rfl) ?_
                    refine r_loadN rfl yA29e yS29e (by conv => lhs; whnf) (by conv => lhs; whnf) (by simp only [hgl, hgr, Core.row_len, Core.take, List.length_map, List.take_succ_cons, List.take_zero, List.drop_succ_cons, List.drop_zero, List.take_nil, List.drop_nil, List.nil_append, List.cons_append, List.append_nil, List.length_cons, List.length_nil, List.head?_cons, List.map_cons, List.map_nil, Nat.reduceAdd, Nat.zero_add, List.length_map]; omega) (by (try simp only [hgl, hgr, Core.row_len, Core.take, List.length_map, List.take_succ_cons, List.take_zero, List.drop_succ_cons, List.drop_zero, List.take_nil, List.drop_nil, List.nil_append, List.cons_append, List.append_nil, List.length_cons, List.length_nil, List.head?_cons, List.map_cons, List.map_nil, Nat.reduceAdd, Nat.zero_add, List.length_map]); rfl) (by simp only [fpOf, idOf, Option.getD_some, Option.getD_none, Op.operands, Call.operands, V.idsL, V.ids, idsL_t, List.append_nil, List.nil_append, List.cons_append, List.toList_toArray, List.map_toArray, List.size_toArray, List.append_toArray, ev_tmp, ev_const, ev_func, upd_at, slots_cons, slots_nil, objs_cons, objs_nil, Nat.reduceLT, Nat.reduceEqDiff, Nat.reduceAdd, reduceIte, if_true, if_false, ofVal, ofS, noOb, reduceCtorEq, List.take_succ_cons, List.take_zero, List.drop_succ_cons, List.drop_zero, List.take_nil, List.drop_nil, List.nil_append, List.cons_append, List.append_nil, List.length_cons, List.length_nil, List.head?_cons, List.map_cons, List.map_nil, Nat.reduceAdd, Nat.zero_add, List.length_map, hgl, hgr, Core.row_len, Core.take, List.length_map]; rfl) ?_
                    refine r_fieldAddr rfl yF29_6e (by conv => lhs; whnf) (by conv => lhs; whnf) (by simp only [fpOf, idOf, Option.getD_some, Option.getD_none, Op.operands, Call.operands, V.idsL, V.ids, idsL_t, List.append_nil, List.nil_append, List.cons_append, List.toList_toArray, List.map_toArray, List.size_toArray, List.append_toArray, ev_tmp, ev_const, ev_func, upd_at, slots_cons, slots_nil, objs_cons, objs_nil, Nat.reduceLT, Nat.reduceEqDiff, Nat.reduceAdd, reduceIte, if_true, if_false, ofVal, ofS, noOb, reduceCtorEq, List.take_succ_cons, List.take_zero, List.drop_succ_cons, List.drop_zero, List.take_nil, List.drop_nil, List.nil_append, List.cons_append, List.append_nil, List.length_cons, List.length_nil, List.head?_cons, List.map_cons, List.map_nil, Nat.reduceAdd, Nat.zero_add, List.length_map, hgl, hgr, Core.row_len, Core.take, List.length_map]; rfl) ?_
                    refine r_load1 rfl yA27e (by conv => lhs; whnf) (by conv => lhs; whnf) (by (try simp only [hgl, hgr, Core.row_len, Core.take, List.length_map, List.take_succ_cons, List.take_zero, List.drop_succ_cons, List.drop_zero, List.take_nil, List.drop_nil, List.nil_append, List.cons_append, List.append_nil, List.length_cons, List.length_nil, List.head?_cons, List.map_cons, List.map_nil, Nat.reduceAdd, Nat.zero_add, List.length_map]); rfl) (by simp only [fpOf, idOf, Option.getD_some, Option.getD_none, Op.operands, Call.operands, V.idsL, V.ids, idsL_t, List.append_nil, List.nil_append, List.cons_append, List.toList_toArray, List.map_toArray, List.size_toArray, List.append_toArray, ev_tmp, ev_const, ev_func, upd_at, slots_cons, slots_nil, objs_cons, objs_nil, Nat.reduceLT, Nat.reduceEqDiff, Nat.reduceAdd, reduceIte, if_true, if_false, ofVal, ofS, noOb, reduceCtorEq, List.take_succ_cons, List.take_zero, List.drop_succ_cons, List.drop_zero, List.take_nil, List.drop_nil, List.nil_append, List.cons_append, List.append_nil, List.length_cons, List.length_nil, List.head?_cons, List.map_cons, List.map_nil, Nat.reduceAdd, Nat.zero_add, List.length_map, hgl, hgr, Core.row_len, Core.take, List.length_map]; rfl) ?_
                    refine r_move rfl (by conv => lhs; whnf) (by simp only [fpOf, idOf, Option.getD_some, Option.getD_none, Op.operands, Call.operands, V.idsL, V.ids, idsL_t, List.append_nil, List.nil_append, List.cons_append, List.toList_toArray, List.map_toArray, List.size_toArray, List.append_toArray, ev_tmp, ev_const, ev_func, upd_at, slots_cons, slots_nil, objs_cons, objs_nil, Nat.reduceLT, Nat.reduceEqDiff, Nat.reduceAdd, reduceIte, if_true, if_false, ofVal, ofS, noOb, reduceCtorEq, List.take_succ_cons, List.take_zero, List.drop_succ_cons, List.drop_zero, List.take_nil, List.drop_nil, List.nil_append, List.cons_append, List.append_nil, List.length_cons, List.length_nil, List.head?_cons, List.map_cons, List.map_nil, Nat.reduceAdd, Nat.zero_add, List.length_map, hgl, hgr, Core.row_len, Core.take, List.length_map]; rfl) ?_
                    refine r_indexAddr rfl yE27e (by conv => lhs; whnf) (by conv => lhs; whnf) (by omega) (by simp only [hgl, hgr, Core.row_len, Core.take, List.length_map, indexP, ev_tmp, ev_const, ev_func, upd_at, slots_cons, slots_nil, objs_cons, objs_nil, Nat.reduceLT, Nat.reduceEqDiff, Nat.reduceAdd, reduceIte, if_true, if_false, ofVal, ofS, noOb, reduceCtorEq]; rfl) (by simp only [fpOf, idOf, Option.getD_some, Option.getD_none, Op.operands, Call.operands, V.idsL, V.ids, idsL_t, List.append_nil, List.nil_append, List.cons_append, List.toList_toArray, List.map_toArray, List.size_toArray, List.append_toArray, ev_tmp, ev_const, ev_func, upd_at, slots_cons, slots_nil, objs_cons, objs_nil, Nat.reduceLT, Nat.reduceEqDiff, Nat.reduceAdd, reduceIte, if_true, if_false, ofVal, ofS, noOb, reduceCtorEq, List.take_succ_cons, List.take_zero, List.drop_succ_cons, List.drop_zero, List.take_nil, List.drop_nil, List.nil_append, List.cons_append, List.append_nil, List.length_cons, List.length_nil, List.head?_cons, List.map_cons, List.map_nil, Nat.reduceAdd, Nat.zero_add, List.length_map, hgl, hgr, Core.row_len, Core.take, List.length_map]; rfl) ?_
                    refine r_loadN rfl yA29e yS29e (by conv => lhs; whnf) (by conv => lhs; whnf) (by simp only [hgl, hgr, Core.row_len, Core.take, List.length_map, List.take_succ_cons, List.take_zero, List.drop_succ_cons, List.drop_zero, List.take_nil, List.drop_nil, List.nil_append, List.cons_append, List.append_nil, List.length_cons, List.length_nil, List.head?_cons, List.map_cons, List.map_nil, Nat.reduceAdd, Nat.zero_add, List.length_map]; omega) (by (try simp only [hgl, hgr, Core.row_len, Core.take, List.length_map, List.take_succ_cons, List.take_zero, List.drop_succ_cons, List.drop_zero, List.take_nil, List.drop_nil, List.nil_append, List.cons_append, List.append_nil, List.length_cons, List.length_nil, List.head?_cons, List.map_cons, List.map_nil, Nat.reduceAdd, Nat.zero_add, List.length_map]); rfl) (by simp only [fpOf, idOf, Option.getD_some, Option.getD_none, Op.operands, Call.operands, V.idsL, V.ids, idsL_t, List.append_nil, List.nil_append, List.cons_append, List.toList_toArray, List.map_toArray, List.size_toArray, List.append_toArray, ev_tmp, ev_const, ev_func, upd_at, slots_cons, slots_nil, objs_cons, objs_nil, Nat.reduceLT, Nat.reduceEqDiff, Nat.reduceAdd, reduceIte, if_true, if_false, ofVal, ofS, noOb, reduceCtorEq, List.take_succ_cons, List.take_zero, List.drop_succ_cons, List.drop_zero, List.take_nil, List.drop_nil, List.nil_append, List.cons_append, List.append_nil, List.length_cons, List.length_nil, List.head?_cons, List.map_cons, List.map_nil, Nat.reduceAdd, Nat.zero_add, List.length_map, hgl, hgr, Core.row_len, Core.take, List.length_map]; rfl) ?_
                    refine r_pure [] rfl rfl rfl (by conv => lhs; whnf) (by simp only [hgl, hgr, Core.row_len, Core.take, List.length_map, ev_tmp, ev_const, ev_func, upd_at, slots_cons, slots_nil, objs_cons, objs_nil, Nat.reduceLT, Nat.reduceEqDiff, Nat.reduceAdd, reduceIte, if_true, if_false, ofVal, ofS, noOb, reduceCtorEq, List.take_succ_cons, List.take_zero, List.drop_succ_cons, List.drop_zero, List.take_nil, List.drop_nil, List.nil_append, List.cons_append, List.append_nil, List.length_cons, List.length_nil, List.head?_cons, List.map_cons, List.map_nil, Nat.reduceAdd, Nat.zero_add, List.length_map, List.toList_toArray]; rfl) (by simp only [hgl, hgr, Core.row_len, Core.take, List.length_map, fzU, ev_tmp, ev_const, ev_func, upd_at, slots_cons, slots_nil, objs_cons, objs_nil, Nat.reduceLT, Nat.reduceEqDiff, Nat.reduceAdd, reduceIte, if_true, if_false, ofVal, ofS, noOb, reduceCtorEq]; rfl) (by simp only [app]; rfl) (hkid) (by exact ⟨(by first | exact pass_id rfl | exact pass_id (ids_row _) | exact .inr (.inl ⟨_, rfl, rfl, by simp [fz]⟩) | exact .inr (.inr ⟨_, _, rfl, rfl, rfl, by simp [fz]⟩)), (by first | exact pass_id rfl | exact pass_id (ids_row _) | exact .inr (.inl ⟨_, rfl, rfl, by simp [fz]⟩) | exact .inr (.inr ⟨_, _, rfl, rfl, rfl, by simp [fz]⟩)), trivial⟩) (by simp only [fpOf, Op.operands, Call.operands, V.idsL, V.ids, idsL_t, List.append_nil, List.nil_append, List.cons_append, List.map_toArray, List.append_toArray, hgl, hgr, Core.row_len, Core.take, List.length_map, ev_tmp, ev_const, ev_func, upd_at, slots_cons, slots_nil, objs_cons, objs_nil, Nat.reduceLT, Nat.reduceEqDiff, Nat.reduceAdd, reduceIte, if_true, if_false, ofVal, ofS, noOb, reduceCtorEq, List.take_succ_cons, List.take_zero, List.drop_succ_cons, List.drop_zero, List.take_nil, List.drop_nil, List.nil_append, List.cons_append, List.append_nil, List.length_cons, List.length_nil, List.head?_cons, List.map_cons, List.map_nil, Nat.reduceAdd, Nat.zero_add, List.length_map]; rfl) ?_
                    refine r_un rfl (by conv => lhs; whnf) (by conv => lhs; whnf) (by simp only [fpOf, idOf, Option.getD_some, Option.getD_none, Op.operands, Call.operands, V.idsL, V.ids, idsL_t, List.append_nil, List.nil_append, List.cons_append, List.toList_toArray, List.map_toArray, List.size_toArray, List.append_toArray, ev_tmp, ev_const, ev_func, upd_at, slots_cons, slots_nil, objs_cons, objs_nil, Nat.reduceLT, Nat.reduceEqDiff, Nat.reduceAdd, reduceIte, if_true, if_false, ofVal, ofS, noOb, reduceCtorEq, List.take_succ_cons, List.take_zero, List.drop_succ_cons, List.drop_zero, List.take_nil, List.drop_nil, List.nil_append, List.cons_append, List.append_nil, List.length_cons, List.length_nil, List.head?_cons, List.map_cons, List.map_nil, Nat.reduceAdd, Nat.zero_add, List.length_map, hgl, hgr, Core.row_len, Core.take, List.length_map]; rfl) ?_
                    refine k_nilD (by simp only [List.reverse_cons, List.reverse_nil, List.nil_append, List.cons_append]; kernel_rfl) ?_
                    refine k_seq ?_
                    refine awp_cond rfl (fun hc => ?_) (fun hc => ?_)
                    · have hne : eqb kids z_kids = false := (eqb_not _ _).2 (fun e => by subst e; simp [eqb] at hc)
                      refine awp_seq ?_
                      refine awp_region ?_
                      refine r_assign rfl (by conv => lhs; whnf) rfl ?_
                      refine k_nil ?_
                      refine k_seq ?_
                      refine awp_ret ?_
                      refine k_blk_ret ?_
                      refine k_seq_ret ?_
                      refine k_rnd_ret ?_
                      refine k_blk_ret ?_
                      refine k_seq_ret ?_
                      refine k_fin ?_
                      refine ends_pure [] (by simp only [Try.results18, resOf, hgl, hgr, Core.row_len, Core.take, List.length_map, ev_tmp, ev_const, ev_func, upd_at, slots_cons, slots_nil, objs_cons, objs_nil, Nat.reduceLT, Nat.reduceEqDiff, Nat.reduceAdd, reduceIte, if_true, if_false, ofVal, ofS, noOb, reduceCtorEq]; rfl) (by rw [hne]; exact ⟨give_id _, trivial⟩) (by simp [V.idsL, V.ids])
                    · have he : kids[j] = z_kids[j] := by simpa [eqb] using hc
                      refine awp_skip ?_
                      refine k_blk ?_
                      refine k_seq ?_
                      refine awp_region ?_
                      refine r_move rfl (by conv => lhs; whnf) rfl ?_
                      refine r_bin rfl (by conv => lhs; whnf) (by conv => lhs; whnf) (by simp only [hgl, hgr, Core.row_len, Core.take, List.length_map, abin, reduceIte, ne_eq, decide_not, Bool.not_true, Bool.not_false]; rfl) rfl ?_
                      refine r_assign rfl (by conv => lhs; whnf) rfl ?_
                      refine k_nil ?_
                      refine k_rnd (j + 1) ⟨hlt, by rw [List.take_succ_eq_append_getElem hlt, List.take_succ_eq_append_getElem hlt2, htk, he]⟩ (by show kids.length - (j + 1) < kids.length - j; omega) (by repeat (first | exact off_frame _ _ _ | exact off_refl _ _ | refine off_upd rfl ?_ | refine off_sub rfl ?_)) (by repeat (first | exact off_frame _ _ _ | exact off_refl _ _ | refine off_upd rfl ?_ | refine off_sub rfl ?_)) (hasF_cons (by conv => lhs; whnf) (by rw [hw1]; push_cast; rfl) (by first | rfl | simp [V.ids, V.idsL, idsL_t, Ob.ids]) trivial) trivial
                  · have hje : j = kids.length := by have := of_decide_eq_false hc; omega
                    have he : eqb kids z_kids = true := (eqb_iff _ _).2 (by rw [hje, List.take_length, hlen, List.take_length] at htk; exact htk)
                    refine awp_exit ?_
                    refine k_seq_exit ?_
                    refine k_rnd_exit ?_
                    refine k_blk_exit ?_
                    refine k_seq ?_
                    refine awp_seq ?_
                    refine awp_region ?_
                    refine r_assign rfl (by conv => lhs; whnf) rfl ?_
                    refine k_nil ?_
                    refine k_seq ?_
                    refine awp_ret ?_
                    refine k_fin ?_
                    refine ends_pure [] (by simp only [Try.results18, resOf, List.length_map, ev_tmp, ev_const, ev_func, upd_at, slots_cons, slots_nil, objs_cons, objs_nil, Nat.reduceLT, Nat.reduceEqDiff, Nat.reduceAdd, reduceIte, if_true, if_false, ofVal, ofS, noOb, reduceCtorEq]; rfl) (by rw [he]; exact ⟨give_id _, trivial⟩) (by simp [V.idsL, V.ids])
termination_by a => SizeOf.sizeOf a
decreasing_by all_goals (have := List.sizeOf_lt_of_mem (by assumption); simp only [Core.mk.sizeOf_spec]; omega)
theorem coreSame_ok (a b : Core) (hl : T.wtL a.row ≤ 2 ^ 30) (hr : T.wtL b.row ≤ 2 ^ 30) : AC Try.prog 19 [.ag (a.row.map .t), .ag (b.row.map .t)] noOb (vb (eqb a b)) noOb := by
  refine AC_intro (rs := [_]) Try.func19 rfl (by kernel_rfl) (by simp [Try.ntmps19]) (by simp [noOb]) ?_
  intro C hC
  rw [Try.ntmps19]
  refine awp_seq ?_
  refine awp_region ?_
  refine r_box rfl (by conv => lhs; whnf) rfl (by conv => lhs; whnf) rfl rfl ?_
  refine r_box rfl (by conv => lhs; whnf) rfl (by conv => lhs; whnf) rfl rfl ?_
  refine r_assign rfl (by conv => lhs; whnf) rfl ?_
  refine k_nil ?_
  refine k_seq ?_
  refine awp_seq ?_
  refine awp_region ?_
  refine r_loadN rfl yA29e yS29e (by conv => lhs; whnf) (by conv => lhs; whnf) (by simp only [Core.take, Core.row_len, List.take_succ_cons, List.take_zero, List.drop_succ_cons, List.drop_zero, List.take_nil, List.drop_nil, List.nil_append, List.cons_append, List.append_nil, List.length_cons, List.length_nil, List.head?_cons, List.map_cons, List.map_nil, Nat.reduceAdd, Nat.zero_add, List.length_map]; omega) (by (try simp only [Core.take, Core.row_len, List.take_succ_cons, List.take_zero, List.drop_succ_cons, List.drop_zero, List.take_nil, List.drop_nil, List.nil_append, List.cons_append, List.append_nil, List.length_cons, List.length_nil, List.head?_cons, List.map_cons, List.map_nil, Nat.reduceAdd, Nat.zero_add, List.length_map]); rfl) rfl ?_
  refine r_loadN rfl yA29e yS29e (by conv => lhs; whnf) (by conv => lhs; whnf) (by simp only [Core.take, Core.row_len, List.take_succ_cons, List.take_zero, List.drop_succ_cons, List.drop_zero, List.take_nil, List.drop_nil, List.nil_append, List.cons_append, List.append_nil, List.length_cons, List.length_nil, List.head?_cons, List.map_cons, List.map_nil, Nat.reduceAdd, Nat.zero_add, List.length_map]; omega) (by (try simp only [Core.take, Core.row_len, List.take_succ_cons, List.take_zero, List.drop_succ_cons, List.drop_zero, List.take_nil, List.drop_nil, List.nil_append, List.cons_append, List.append_nil, List.length_cons, List.length_nil, List.head?_cons, List.map_cons, List.map_nil, Nat.reduceAdd, Nat.zero_add, List.length_map]); rfl) rfl ?_
  refine r_pure [] rfl rfl rfl (by conv => lhs; whnf) (by simp only [Core.take, Core.row_len, ev_tmp, ev_const, ev_func, upd_at, slots_cons, slots_nil, objs_cons, objs_nil, Nat.reduceLT, Nat.reduceEqDiff, Nat.reduceAdd, reduceIte, if_true, if_false, ofVal, ofS, noOb, reduceCtorEq, List.take_succ_cons, List.take_zero, List.drop_succ_cons, List.drop_zero, List.take_nil, List.drop_nil, List.nil_append, List.cons_append, List.append_nil, List.length_cons, List.length_nil, List.head?_cons, List.map_cons, List.map_nil, Nat.reduceAdd, Nat.zero_add, List.length_map, List.toList_toArray]; rfl) (by simp only [Core.take, Core.row_len, fzU, ev_tmp, ev_const, ev_func, upd_at, slots_cons, slots_nil, objs_cons, objs_nil, Nat.reduceLT, Nat.reduceEqDiff, Nat.reduceAdd, reduceIte, if_true, if_false, ofVal, ofS, noOb, reduceCtorEq]; rfl) (by simp only [app]; rfl) (sameCore_ok a b hl hr) (by exact ⟨(by first | exact pass_id rfl | exact pass_id (ids_row _) | exact .inr (.inl ⟨_, rfl, rfl, by simp [fz]⟩) | exact .inr (.inr ⟨_, _, rfl, rfl, rfl, by simp [fz]⟩)), (by first | exact pass_id rfl | exact pass_id (ids_row _) | exact .inr (.inl ⟨_, rfl, rfl, by simp [fz]⟩) | exact .inr (.inr ⟨_, _, rfl, rfl, rfl, by simp [fz]⟩)), trivial⟩) rfl ?_
  refine r_assign rfl (by conv => lhs; whnf) rfl ?_
  refine k_nil ?_
  refine k_seq ?_
  refine awp_ret ?_
  refine k_fin ?_
  refine ends_pure [] (by simp only [Try.results19, resOf, Core.take, Core.row_len, ev_tmp, ev_const, ev_func, upd_at, slots_cons, slots_nil, objs_cons, objs_nil, Nat.reduceLT, Nat.reduceEqDiff, Nat.reduceAdd, reduceIte, if_true, if_false, ofVal, ofS, noOb, reduceCtorEq]; rfl) (by skip; exact ⟨give_id _, trivial⟩) (by simp [V.idsL, V.ids])
theorem fnExactCoreSame_ok (a b : Core) (hoka : T.okL a.row) (hokb : T.okL b.row) : AC Try.prog 6 [.ag (a.row.map .t), .ag (b.row.map .t)] noOb (vb true) noOb := by
  refine AC_intro (rs := [_]) Try.func6 rfl (by kernel_rfl) (by simp [Try.ntmps6]) (by simp [noOb]) ?_
  intro C hC
  rw [Try.ntmps6]
  refine awp_seq ?_
  refine awp_region ?_
  refine r_box rfl (by conv => lhs; whnf) rfl (by conv => lhs; whnf) rfl rfl ?_
  refine r_box rfl (by conv => lhs; whnf) rfl (by conv => lhs; whnf) rfl rfl ?_
  refine r_assign rfl (by conv => lhs; whnf) rfl ?_
  refine k_nil ?_
  refine k_seq ?_
  refine awp_seq ?_
  refine awp_region ?_
  refine r_assign rfl (by conv => lhs; whnf) rfl ?_
  refine k_nil ?_
  refine k_seq ?_
  refine awp_seq ?_
  refine awp_region ?_
  refine r_loadN rfl yA42e yS42e (by conv => lhs; whnf) (by conv => lhs; whnf) (by simp only [Core.take, Core.row_len, List.take_succ_cons, List.take_zero, List.drop_succ_cons, List.drop_zero, List.take_nil, List.drop_nil, List.nil_append, List.cons_append, List.append_nil, List.length_cons, List.length_nil, List.head?_cons, List.map_cons, List.map_nil, Nat.reduceAdd, Nat.zero_add, List.length_map]; omega) (by (try simp only [Core.take, Core.row_len, List.take_succ_cons, List.take_zero, List.drop_succ_cons, List.drop_zero, List.take_nil, List.drop_nil, List.nil_append, List.cons_append, List.append_nil, List.length_cons, List.length_nil, List.head?_cons, List.map_cons, List.map_nil, Nat.reduceAdd, Nat.zero_add, List.length_map]); rfl) rfl ?_
  refine r_move rfl (by conv => lhs; whnf) rfl ?_
  refine r_pure [] rfl rfl rfl (by conv => lhs; whnf) (by simp only [Core.take, Core.row_len, ev_tmp, ev_const, ev_func, upd_at, slots_cons, slots_nil, objs_cons, objs_nil, Nat.reduceLT, Nat.reduceEqDiff, Nat.reduceAdd, reduceIte, if_true, if_false, ofVal, ofS, noOb, reduceCtorEq, List.take_succ_cons, List.take_zero, List.drop_succ_cons, List.drop_zero, List.take_nil, List.drop_nil, List.nil_append, List.cons_append, List.append_nil, List.length_cons, List.length_nil, List.head?_cons, List.map_cons, List.map_nil, Nat.reduceAdd, Nat.zero_add, List.length_map, List.toList_toArray]; rfl) (by simp only [Core.take, Core.row_len, fzU, ev_tmp, ev_const, ev_func, upd_at, slots_cons, slots_nil, objs_cons, objs_nil, Nat.reduceLT, Nat.reduceEqDiff, Nat.reduceAdd, reduceIte, if_true, if_false, ofVal, ofS, noOb, reduceCtorEq]; rfl) (by simp only [app]; rfl) (szCore_ok a 1048576 (by omega) (by omega) hoka) (by exact ⟨(by first | exact pass_id rfl | exact pass_id (ids_row _) | exact .inr (.inl ⟨_, rfl, rfl, by simp [fz]⟩) | exact .inr (.inr ⟨_, _, rfl, rfl, rfl, by simp [fz]⟩)), (by first | exact pass_id rfl | exact pass_id (ids_row _) | exact .inr (.inl ⟨_, rfl, rfl, by simp [fz]⟩) | exact .inr (.inr ⟨_, _, rfl, rfl, rfl, by simp [fz]⟩)), trivial⟩) rfl ?_
  refine r_assign rfl (by conv => lhs; whnf) rfl ?_
  refine k_nil ?_
  refine k_seq ?_
  refine awp_seq ?_
  refine awp_seq ?_
  refine awp_region ?_
  refine r_move rfl (by conv => lhs; whnf) rfl ?_
  refine r_bin rfl (by conv => lhs; whnf) (by conv => lhs; whnf) (by simp only [Core.take, Core.row_len, abin, reduceIte, ne_eq, decide_not, Bool.not_true, Bool.not_false]; rfl) rfl ?_
  refine k_nil ?_
  refine k_seq ?_
  refine awp_cond rfl (fun hc => ?_) (fun hc => ?_)
  · refine awp_seq ?_
    refine awp_region ?_
    refine r_assign rfl (by conv => lhs; whnf) rfl ?_
    refine k_nil ?_
    refine k_seq ?_
    refine awp_ret ?_
    refine k_seq_ret ?_
    refine k_fin ?_
    refine ends_pure [] (by simp only [Try.results6, resOf, Core.take, Core.row_len, ev_tmp, ev_const, ev_func, upd_at, slots_cons, slots_nil, objs_cons, objs_nil, Nat.reduceLT, Nat.reduceEqDiff, Nat.reduceAdd, reduceIte, if_true, if_false, ofVal, ofS, noOb, reduceCtorEq]; rfl) (by skip; exact ⟨give_id _, trivial⟩) (by simp [V.idsL, V.ids])
  have hwt : (T.wtL a.row : Int) ≤ 1048576 := by
    have h := of_decide_eq_false hc
    rcases Int.lt_or_le 1048576 (T.wtL a.row : Nat) with hh | hh
    · rw [szr_neg (by omega)] at h; omega
    · omega
  clear hc
  have hl1 := szr_pos hwt
  rw [hl1]
  refine awp_skip ?_
  refine k_seq ?_
  refine awp_seq ?_
  refine awp_region ?_
  refine r_loadN rfl yA42e yS42e (by conv => lhs; whnf) (by conv => lhs; whnf) (by simp only [Core.take, Core.row_len, List.take_succ_cons, List.take_zero, List.drop_succ_cons, List.drop_zero, List.take_nil, List.drop_nil, List.nil_append, List.cons_append, List.append_nil, List.length_cons, List.length_nil, List.head?_cons, List.map_cons, List.map_nil, Nat.reduceAdd, Nat.zero_add, List.length_map]; omega) (by (try simp only [Core.take, Core.row_len, List.take_succ_cons, List.take_zero, List.drop_succ_cons, List.drop_zero, List.take_nil, List.drop_nil, List.nil_append, List.cons_append, List.append_nil, List.length_cons, List.length_nil, List.head?_cons, List.map_cons, List.map_nil, Nat.reduceAdd, Nat.zero_add, List.length_map]); rfl) rfl ?_
  refine r_move rfl (by conv => lhs; whnf) rfl ?_
  refine r_pure [] rfl rfl rfl (by conv => lhs; whnf) (by simp only [Core.take, Core.row_len, ev_tmp, ev_const, ev_func, upd_at, slots_cons, slots_nil, objs_cons, objs_nil, Nat.reduceLT, Nat.reduceEqDiff, Nat.reduceAdd, reduceIte, if_true, if_false, ofVal, ofS, noOb, reduceCtorEq, List.take_succ_cons, List.take_zero, List.drop_succ_cons, List.drop_zero, List.take_nil, List.drop_nil, List.nil_append, List.cons_append, List.append_nil, List.length_cons, List.length_nil, List.head?_cons, List.map_cons, List.map_nil, Nat.reduceAdd, Nat.zero_add, List.length_map, List.toList_toArray]; rfl) (by simp only [Core.take, Core.row_len, fzU, ev_tmp, ev_const, ev_func, upd_at, slots_cons, slots_nil, objs_cons, objs_nil, Nat.reduceLT, Nat.reduceEqDiff, Nat.reduceAdd, reduceIte, if_true, if_false, ofVal, ofS, noOb, reduceCtorEq]; rfl) (by simp only [app]; rfl) (szCore_ok b (1048576 - (T.wtL a.row : Nat)) (by omega) (by omega) hokb) (by exact ⟨(by first | exact pass_id rfl | exact pass_id (ids_row _) | exact .inr (.inl ⟨_, rfl, rfl, by simp [fz]⟩) | exact .inr (.inr ⟨_, _, rfl, rfl, rfl, by simp [fz]⟩)), (by first | exact pass_id rfl | exact pass_id (ids_row _) | exact .inr (.inl ⟨_, rfl, rfl, by simp [fz]⟩) | exact .inr (.inr ⟨_, _, rfl, rfl, rfl, by simp [fz]⟩)), trivial⟩) rfl ?_
  refine r_assign rfl (by conv => lhs; whnf) rfl ?_
  refine k_nil ?_
  refine k_seq ?_
  refine awp_seq ?_
  refine awp_seq ?_
  refine awp_region ?_
  refine r_move rfl (by conv => lhs; whnf) rfl ?_
  refine r_bin rfl (by conv => lhs; whnf) (by conv => lhs; whnf) (by simp only [Core.take, Core.row_len, abin, reduceIte, ne_eq, decide_not, Bool.not_true, Bool.not_false]; rfl) rfl ?_
  refine k_nil ?_
  refine k_seq ?_
  refine awp_cond rfl (fun hc => ?_) (fun hc => ?_)
  · refine awp_seq ?_
    refine awp_region ?_
    refine r_assign rfl (by conv => lhs; whnf) rfl ?_
    refine k_nil ?_
    refine k_seq ?_
    refine awp_ret ?_
    refine k_seq_ret ?_
    refine k_fin ?_
    refine ends_pure [] (by simp only [Try.results6, resOf, Core.take, Core.row_len, ev_tmp, ev_const, ev_func, upd_at, slots_cons, slots_nil, objs_cons, objs_nil, Nat.reduceLT, Nat.reduceEqDiff, Nat.reduceAdd, reduceIte, if_true, if_false, ofVal, ofS, noOb, reduceCtorEq]; rfl) (by skip; exact ⟨give_id _, trivial⟩) (by simp [V.idsL, V.ids])
  have hwt2 : (T.wtL b.row : Int) ≤ 1048576 := by
    have h := of_decide_eq_false hc
    rcases Int.lt_or_le (1048576 - (T.wtL a.row : Nat)) (T.wtL b.row : Nat) with hh | hh
    · rw [szr_neg (by omega)] at h; omega
    · omega
  clear hc
  have ha : T.wtL a.row ≤ 2 ^ 30 := by omega
  have hb : T.wtL b.row ≤ 2 ^ 30 := by omega
  refine awp_skip ?_
  refine k_seq ?_
  refine awp_seq ?_
  refine awp_draw yMixe (by kernel_rfl) ?_
  refine r_loadN rfl yA42e yS42e (by conv => lhs; whnf) (by conv => lhs; whnf) (by simp only [Core.take, Core.row_len, List.take_succ_cons, List.take_zero, List.drop_succ_cons, List.drop_zero, List.take_nil, List.drop_nil, List.nil_append, List.cons_append, List.append_nil, List.length_cons, List.length_nil, List.head?_cons, List.map_cons, List.map_nil, Nat.reduceAdd, Nat.zero_add, List.length_map]; omega) (by (try simp only [Core.take, Core.row_len, List.take_succ_cons, List.take_zero, List.drop_succ_cons, List.drop_zero, List.take_nil, List.drop_nil, List.nil_append, List.cons_append, List.append_nil, List.length_cons, List.length_nil, List.head?_cons, List.map_cons, List.map_nil, Nat.reduceAdd, Nat.zero_add, List.length_map]); rfl) (by simp only [fpOf, idOf, Option.getD_some, Option.getD_none, Op.operands, Call.operands, V.idsL, V.ids, idsL_t, List.append_nil, List.nil_append, List.cons_append, List.toList_toArray, List.map_toArray, List.size_toArray, List.append_toArray, ev_tmp, ev_const, ev_func, upd_at, slots_cons, slots_nil, objs_cons, objs_nil, Nat.reduceLT, Nat.reduceEqDiff, Nat.reduceAdd, reduceIte, if_true, if_false, ofVal, ofS, noOb, reduceCtorEq, List.take_succ_cons, List.take_zero, List.drop_succ_cons, List.drop_zero, List.take_nil, List.drop_nil, List.nil_append, List.cons_append, List.append_nil, List.length_cons, List.length_nil, List.head?_cons, List.map_cons, List.map_nil, Nat.reduceAdd, Nat.zero_add, List.length_map, Core.take, Core.row_len]; rfl) ?_
  refine r_pure [] rfl rfl rfl (by conv => lhs; whnf) (by simp only [Core.take, Core.row_len, ev_tmp, ev_const, ev_func, upd_at, slots_cons, slots_nil, objs_cons, objs_nil, Nat.reduceLT, Nat.reduceEqDiff, Nat.reduceAdd, reduceIte, if_true, if_false, ofVal, ofS, noOb, reduceCtorEq, List.take_succ_cons, List.take_zero, List.drop_succ_cons, List.drop_zero, List.take_nil, List.drop_nil, List.nil_append, List.cons_append, List.append_nil, List.length_cons, List.length_nil, List.head?_cons, List.map_cons, List.map_nil, Nat.reduceAdd, Nat.zero_add, List.length_map, List.toList_toArray]; rfl) (by simp only [Core.take, Core.row_len, fzU, ev_tmp, ev_const, ev_func, upd_at, slots_cons, slots_nil, objs_cons, objs_nil, Nat.reduceLT, Nat.reduceEqDiff, Nat.reduceAdd, reduceIte, if_true, if_false, ofVal, ofS, noOb, reduceCtorEq]; rfl) (by simp only [app]; rfl) (toCore_ok a ha) (by exact ⟨(by first | exact pass_id rfl | exact pass_id (ids_row _) | exact .inr (.inl ⟨_, rfl, rfl, by simp [fz]⟩) | exact .inr (.inr ⟨_, _, rfl, rfl, rfl, by simp [fz]⟩)), trivial⟩) (by simp only [fpOf, Op.operands, Call.operands, V.idsL, V.ids, idsL_t, List.append_nil, List.nil_append, List.cons_append, List.map_toArray, List.append_toArray, Core.take, Core.row_len, ev_tmp, ev_const, ev_func, upd_at, slots_cons, slots_nil, objs_cons, objs_nil, Nat.reduceLT, Nat.reduceEqDiff, Nat.reduceAdd, reduceIte, if_true, if_false, ofVal, ofS, noOb, reduceCtorEq, List.take_succ_cons, List.take_zero, List.drop_succ_cons, List.drop_zero, List.take_nil, List.drop_nil, List.nil_append, List.cons_append, List.append_nil, List.length_cons, List.length_nil, List.head?_cons, List.map_cons, List.map_nil, Nat.reduceAdd, Nat.zero_add, List.length_map]; rfl) ?_
  refine r_loadN rfl yA42e yS42e (by conv => lhs; whnf) (by conv => lhs; whnf) (by simp only [Core.take, Core.row_len, List.take_succ_cons, List.take_zero, List.drop_succ_cons, List.drop_zero, List.take_nil, List.drop_nil, List.nil_append, List.cons_append, List.append_nil, List.length_cons, List.length_nil, List.head?_cons, List.map_cons, List.map_nil, Nat.reduceAdd, Nat.zero_add, List.length_map]; omega) (by (try simp only [Core.take, Core.row_len, List.take_succ_cons, List.take_zero, List.drop_succ_cons, List.drop_zero, List.take_nil, List.drop_nil, List.nil_append, List.cons_append, List.append_nil, List.length_cons, List.length_nil, List.head?_cons, List.map_cons, List.map_nil, Nat.reduceAdd, Nat.zero_add, List.length_map]); rfl) (by simp only [fpOf, idOf, Option.getD_some, Option.getD_none, Op.operands, Call.operands, V.idsL, V.ids, idsL_t, List.append_nil, List.nil_append, List.cons_append, List.toList_toArray, List.map_toArray, List.size_toArray, List.append_toArray, ev_tmp, ev_const, ev_func, upd_at, slots_cons, slots_nil, objs_cons, objs_nil, Nat.reduceLT, Nat.reduceEqDiff, Nat.reduceAdd, reduceIte, if_true, if_false, ofVal, ofS, noOb, reduceCtorEq, List.take_succ_cons, List.take_zero, List.drop_succ_cons, List.drop_zero, List.take_nil, List.drop_nil, List.nil_append, List.cons_append, List.append_nil, List.length_cons, List.length_nil, List.head?_cons, List.map_cons, List.map_nil, Nat.reduceAdd, Nat.zero_add, List.length_map, Core.take, Core.row_len]; rfl) ?_
  refine r_pure [] rfl rfl rfl (by conv => lhs; whnf) (by simp only [Core.take, Core.row_len, ev_tmp, ev_const, ev_func, upd_at, slots_cons, slots_nil, objs_cons, objs_nil, Nat.reduceLT, Nat.reduceEqDiff, Nat.reduceAdd, reduceIte, if_true, if_false, ofVal, ofS, noOb, reduceCtorEq, List.take_succ_cons, List.take_zero, List.drop_succ_cons, List.drop_zero, List.take_nil, List.drop_nil, List.nil_append, List.cons_append, List.append_nil, List.length_cons, List.length_nil, List.head?_cons, List.map_cons, List.map_nil, Nat.reduceAdd, Nat.zero_add, List.length_map, List.toList_toArray]; rfl) (by simp only [Core.take, Core.row_len, fzU, ev_tmp, ev_const, ev_func, upd_at, slots_cons, slots_nil, objs_cons, objs_nil, Nat.reduceLT, Nat.reduceEqDiff, Nat.reduceAdd, reduceIte, if_true, if_false, ofVal, ofS, noOb, reduceCtorEq]; rfl) (by simp only [app]; rfl) (toCore_ok b hb) (by exact ⟨(by first | exact pass_id rfl | exact pass_id (ids_row _) | exact .inr (.inl ⟨_, rfl, rfl, by simp [fz]⟩) | exact .inr (.inr ⟨_, _, rfl, rfl, rfl, by simp [fz]⟩)), trivial⟩) (by simp only [fpOf, Op.operands, Call.operands, V.idsL, V.ids, idsL_t, List.append_nil, List.nil_append, List.cons_append, List.map_toArray, List.append_toArray, Core.take, Core.row_len, ev_tmp, ev_const, ev_func, upd_at, slots_cons, slots_nil, objs_cons, objs_nil, Nat.reduceLT, Nat.reduceEqDiff, Nat.reduceAdd, reduceIte, if_true, if_false, ofVal, ofS, noOb, reduceCtorEq, List.take_succ_cons, List.take_zero, List.drop_succ_cons, List.drop_zero, List.take_nil, List.drop_nil, List.nil_append, List.cons_append, List.append_nil, List.length_cons, List.length_nil, List.head?_cons, List.map_cons, List.map_nil, Nat.reduceAdd, Nat.zero_add, List.length_map]; rfl) ?_
  refine r_pure [] rfl rfl rfl (by conv => lhs; whnf) (by simp only [Core.take, Core.row_len, ev_tmp, ev_const, ev_func, upd_at, slots_cons, slots_nil, objs_cons, objs_nil, Nat.reduceLT, Nat.reduceEqDiff, Nat.reduceAdd, reduceIte, if_true, if_false, ofVal, ofS, noOb, reduceCtorEq, List.take_succ_cons, List.take_zero, List.drop_succ_cons, List.drop_zero, List.take_nil, List.drop_nil, List.nil_append, List.cons_append, List.append_nil, List.length_cons, List.length_nil, List.head?_cons, List.map_cons, List.map_nil, Nat.reduceAdd, Nat.zero_add, List.length_map, List.toList_toArray]; rfl) (by simp only [Core.take, Core.row_len, fzU, ev_tmp, ev_const, ev_func, upd_at, slots_cons, slots_nil, objs_cons, objs_nil, Nat.reduceLT, Nat.reduceEqDiff, Nat.reduceAdd, reduceIte, if_true, if_false, ofVal, ofS, noOb, reduceCtorEq]; rfl) (by simp only [app]; rfl) (specCoreSame_ok a b ha hb) (by exact ⟨(by first | exact pass_id rfl | exact pass_id (ids_row _) | exact .inr (.inl ⟨_, rfl, rfl, by simp [fz]⟩) | exact .inr (.inr ⟨_, _, rfl, rfl, rfl, by simp [fz]⟩)), (by first | exact pass_id rfl | exact pass_id (ids_row _) | exact .inr (.inl ⟨_, rfl, rfl, by simp [fz]⟩) | exact .inr (.inr ⟨_, _, rfl, rfl, rfl, by simp [fz]⟩)), trivial⟩) (by simp only [fpOf, Op.operands, Call.operands, V.idsL, V.ids, idsL_t, List.append_nil, List.nil_append, List.cons_append, List.map_toArray, List.append_toArray, Core.take, Core.row_len, ev_tmp, ev_const, ev_func, upd_at, slots_cons, slots_nil, objs_cons, objs_nil, Nat.reduceLT, Nat.reduceEqDiff, Nat.reduceAdd, reduceIte, if_true, if_false, ofVal, ofS, noOb, reduceCtorEq, List.take_succ_cons, List.take_zero, List.drop_succ_cons, List.drop_zero, List.take_nil, List.drop_nil, List.nil_append, List.cons_append, List.append_nil, List.length_cons, List.length_nil, List.head?_cons, List.map_cons, List.map_nil, Nat.reduceAdd, Nat.zero_add, List.length_map]; rfl) ?_
  refine r_assign rfl (by conv => lhs; whnf) (by simp only [fpOf, idOf, Option.getD_some, Option.getD_none, Op.operands, Call.operands, V.idsL, V.ids, idsL_t, List.append_nil, List.nil_append, List.cons_append, List.toList_toArray, List.map_toArray, List.size_toArray, List.append_toArray, ev_tmp, ev_const, ev_func, upd_at, slots_cons, slots_nil, objs_cons, objs_nil, Nat.reduceLT, Nat.reduceEqDiff, Nat.reduceAdd, reduceIte, if_true, if_false, ofVal, ofS, noOb, reduceCtorEq, List.take_succ_cons, List.take_zero, List.drop_succ_cons, List.drop_zero, List.take_nil, List.drop_nil, List.nil_append, List.cons_append, List.append_nil, List.length_cons, List.length_nil, List.head?_cons, List.map_cons, List.map_nil, Nat.reduceAdd, Nat.zero_add, List.length_map, Core.take, Core.row_len]; rfl) ?_
  refine k_nilD (by simp only [List.reverse_cons, List.reverse_nil, List.nil_append, List.cons_append]; kernel_rfl) ?_
  refine k_seq ?_
  refine awp_seq ?_
  refine awp_region ?_
  refine r_loadN rfl yA42e yS42e (by conv => lhs; whnf) (by conv => lhs; whnf) (by simp only [Core.take, Core.row_len, List.take_succ_cons, List.take_zero, List.drop_succ_cons, List.drop_zero, List.take_nil, List.drop_nil, List.nil_append, List.cons_append, List.append_nil, List.length_cons, List.length_nil, List.head?_cons, List.map_cons, List.map_nil, Nat.reduceAdd, Nat.zero_add, List.length_map]; omega) (by (try simp only [Core.take, Core.row_len, List.take_succ_cons, List.take_zero, List.drop_succ_cons, List.drop_zero, List.take_nil, List.drop_nil, List.nil_append, List.cons_append, List.append_nil, List.length_cons, List.length_nil, List.head?_cons, List.map_cons, List.map_nil, Nat.reduceAdd, Nat.zero_add, List.length_map]); rfl) rfl ?_
  refine r_pure [] rfl rfl rfl (by conv => lhs; whnf) (by simp only [Core.take, Core.row_len, ev_tmp, ev_const, ev_func, upd_at, slots_cons, slots_nil, objs_cons, objs_nil, Nat.reduceLT, Nat.reduceEqDiff, Nat.reduceAdd, reduceIte, if_true, if_false, ofVal, ofS, noOb, reduceCtorEq, List.take_succ_cons, List.take_zero, List.drop_succ_cons, List.drop_zero, List.take_nil, List.drop_nil, List.nil_append, List.cons_append, List.append_nil, List.length_cons, List.length_nil, List.head?_cons, List.map_cons, List.map_nil, Nat.reduceAdd, Nat.zero_add, List.length_map, List.toList_toArray]; rfl) (by simp only [Core.take, Core.row_len, fzU, ev_tmp, ev_const, ev_func, upd_at, slots_cons, slots_nil, objs_cons, objs_nil, Nat.reduceLT, Nat.reduceEqDiff, Nat.reduceAdd, reduceIte, if_true, if_false, ofVal, ofS, noOb, reduceCtorEq]; rfl) (by simp only [app]; rfl) (toCore_ok a ha) (by exact ⟨(by first | exact pass_id rfl | exact pass_id (ids_row _) | exact .inr (.inl ⟨_, rfl, rfl, by simp [fz]⟩) | exact .inr (.inr ⟨_, _, rfl, rfl, rfl, by simp [fz]⟩)), trivial⟩) rfl ?_
  refine r_alloc rfl yZ29e rfl rfl ?_
  refine r_storeB rfl (by conv => lhs; whnf) (by conv => lhs; whnf) (by conv => lhs; whnf) (by conv => lhs; whnf) (by first | rfl | simp only [Core.take, Core.row_len, oneAll_t]) (by rw [yS29e]; simp only [Core.take, Core.row_len, List.take_succ_cons, List.take_zero, List.drop_succ_cons, List.drop_zero, List.take_nil, List.drop_nil, List.nil_append, List.cons_append, List.append_nil, List.length_cons, List.length_nil, List.head?_cons, List.map_cons, List.map_nil, Nat.reduceAdd, Nat.zero_add, List.length_map]) (by simp only [Core.take, Core.row_len, List.take_succ_cons, List.take_zero, List.drop_succ_cons, List.drop_zero, List.take_nil, List.drop_nil, List.nil_append, List.cons_append, List.append_nil, List.length_cons, List.length_nil, List.head?_cons, List.map_cons, List.map_nil, Nat.reduceAdd, Nat.zero_add, List.length_map]; omega) (splice_all (by simp only [Core.take, Core.row_len, List.take_succ_cons, List.take_zero, List.drop_succ_cons, List.drop_zero, List.take_nil, List.drop_nil, List.nil_append, List.cons_append, List.append_nil, List.length_cons, List.length_nil, List.head?_cons, List.map_cons, List.map_nil, Nat.reduceAdd, Nat.zero_add, List.length_map]; omega)) rfl ?_
  refine k_nil ?_
  refine k_seq ?_
  refine awp_seq ?_
  refine awp_region ?_
  refine r_loadN rfl yA42e yS42e (by conv => lhs; whnf) (by conv => lhs; whnf) (by simp only [Core.take, Core.row_len, List.take_succ_cons, List.take_zero, List.drop_succ_cons, List.drop_zero, List.take_nil, List.drop_nil, List.nil_append, List.cons_append, List.append_nil, List.length_cons, List.length_nil, List.head?_cons, List.map_cons, List.map_nil, Nat.reduceAdd, Nat.zero_add, List.length_map]; omega) (by (try simp only [Core.take, Core.row_len, List.take_succ_cons, List.take_zero, List.drop_succ_cons, List.drop_zero, List.take_nil, List.drop_nil, List.nil_append, List.cons_append, List.append_nil, List.length_cons, List.length_nil, List.head?_cons, List.map_cons, List.map_nil, Nat.reduceAdd, Nat.zero_add, List.length_map]); rfl) rfl ?_
  refine r_pure [] rfl rfl rfl (by conv => lhs; whnf) (by simp only [Core.take, Core.row_len, ev_tmp, ev_const, ev_func, upd_at, slots_cons, slots_nil, objs_cons, objs_nil, Nat.reduceLT, Nat.reduceEqDiff, Nat.reduceAdd, reduceIte, if_true, if_false, ofVal, ofS, noOb, reduceCtorEq, List.take_succ_cons, List.take_zero, List.drop_succ_cons, List.drop_zero, List.take_nil, List.drop_nil, List.nil_append, List.cons_append, List.append_nil, List.length_cons, List.length_nil, List.head?_cons, List.map_cons, List.map_nil, Nat.reduceAdd, Nat.zero_add, List.length_map, List.toList_toArray]; rfl) (by simp only [Core.take, Core.row_len, fzU, ev_tmp, ev_const, ev_func, upd_at, slots_cons, slots_nil, objs_cons, objs_nil, Nat.reduceLT, Nat.reduceEqDiff, Nat.reduceAdd, reduceIte, if_true, if_false, ofVal, ofS, noOb, reduceCtorEq]; rfl) (by simp only [app]; rfl) (toCore_ok b hb) (by exact ⟨(by first | exact pass_id rfl | exact pass_id (ids_row _) | exact .inr (.inl ⟨_, rfl, rfl, by simp [fz]⟩) | exact .inr (.inr ⟨_, _, rfl, rfl, rfl, by simp [fz]⟩)), trivial⟩) rfl ?_
  refine r_alloc rfl yZ29e rfl rfl ?_
  refine r_storeB rfl (by conv => lhs; whnf) (by conv => lhs; whnf) (by conv => lhs; whnf) (by conv => lhs; whnf) (by first | rfl | simp only [Core.take, Core.row_len, oneAll_t]) (by rw [yS29e]; simp only [Core.take, Core.row_len, List.take_succ_cons, List.take_zero, List.drop_succ_cons, List.drop_zero, List.take_nil, List.drop_nil, List.nil_append, List.cons_append, List.append_nil, List.length_cons, List.length_nil, List.head?_cons, List.map_cons, List.map_nil, Nat.reduceAdd, Nat.zero_add, List.length_map]) (by simp only [Core.take, Core.row_len, List.take_succ_cons, List.take_zero, List.drop_succ_cons, List.drop_zero, List.take_nil, List.drop_nil, List.nil_append, List.cons_append, List.append_nil, List.length_cons, List.length_nil, List.head?_cons, List.map_cons, List.map_nil, Nat.reduceAdd, Nat.zero_add, List.length_map]; omega) (splice_all (by simp only [Core.take, Core.row_len, List.take_succ_cons, List.take_zero, List.drop_succ_cons, List.drop_zero, List.take_nil, List.drop_nil, List.nil_append, List.cons_append, List.append_nil, List.length_cons, List.length_nil, List.head?_cons, List.map_cons, List.map_nil, Nat.reduceAdd, Nat.zero_add, List.length_map]; omega)) rfl ?_
  refine k_nil ?_
  refine k_seq ?_
  refine awp_seq ?_
  refine awp_region ?_
  refine r_loadN rfl yA29e yS29e (by conv => lhs; whnf) (by conv => lhs; whnf) (by simp only [Core.take, Core.row_len, List.take_succ_cons, List.take_zero, List.drop_succ_cons, List.drop_zero, List.take_nil, List.drop_nil, List.nil_append, List.cons_append, List.append_nil, List.length_cons, List.length_nil, List.head?_cons, List.map_cons, List.map_nil, Nat.reduceAdd, Nat.zero_add, List.length_map]; omega) (by (try simp only [Core.take, Core.row_len, List.take_succ_cons, List.take_zero, List.drop_succ_cons, List.drop_zero, List.take_nil, List.drop_nil, List.nil_append, List.cons_append, List.append_nil, List.length_cons, List.length_nil, List.head?_cons, List.map_cons, List.map_nil, Nat.reduceAdd, Nat.zero_add, List.length_map]); rfl) rfl ?_
  refine r_loadN rfl yA29e yS29e (by conv => lhs; whnf) (by conv => lhs; whnf) (by simp only [Core.take, Core.row_len, List.take_succ_cons, List.take_zero, List.drop_succ_cons, List.drop_zero, List.take_nil, List.drop_nil, List.nil_append, List.cons_append, List.append_nil, List.length_cons, List.length_nil, List.head?_cons, List.map_cons, List.map_nil, Nat.reduceAdd, Nat.zero_add, List.length_map]; omega) (by (try simp only [Core.take, Core.row_len, List.take_succ_cons, List.take_zero, List.drop_succ_cons, List.drop_zero, List.take_nil, List.drop_nil, List.nil_append, List.cons_append, List.append_nil, List.length_cons, List.length_nil, List.head?_cons, List.map_cons, List.map_nil, Nat.reduceAdd, Nat.zero_add, List.length_map]); rfl) rfl ?_
  refine r_pure [] rfl rfl rfl (by conv => lhs; whnf) (by simp only [Core.take, Core.row_len, ev_tmp, ev_const, ev_func, upd_at, slots_cons, slots_nil, objs_cons, objs_nil, Nat.reduceLT, Nat.reduceEqDiff, Nat.reduceAdd, reduceIte, if_true, if_false, ofVal, ofS, noOb, reduceCtorEq, List.take_succ_cons, List.take_zero, List.drop_succ_cons, List.drop_zero, List.take_nil, List.drop_nil, List.nil_append, List.cons_append, List.append_nil, List.length_cons, List.length_nil, List.head?_cons, List.map_cons, List.map_nil, Nat.reduceAdd, Nat.zero_add, List.length_map, List.toList_toArray]; rfl) (by simp only [Core.take, Core.row_len, fzU, ev_tmp, ev_const, ev_func, upd_at, slots_cons, slots_nil, objs_cons, objs_nil, Nat.reduceLT, Nat.reduceEqDiff, Nat.reduceAdd, reduceIte, if_true, if_false, ofVal, ofS, noOb, reduceCtorEq]; rfl) (by simp only [app]; rfl) (coreSame_ok a b ha hb) (by exact ⟨(by first | exact pass_id rfl | exact pass_id (ids_row _) | exact .inr (.inl ⟨_, rfl, rfl, by simp [fz]⟩) | exact .inr (.inr ⟨_, _, rfl, rfl, rfl, by simp [fz]⟩)), (by first | exact pass_id rfl | exact pass_id (ids_row _) | exact .inr (.inl ⟨_, rfl, rfl, by simp [fz]⟩) | exact .inr (.inr ⟨_, _, rfl, rfl, rfl, by simp [fz]⟩)), trivial⟩) rfl ?_
  refine r_assign rfl (by conv => lhs; whnf) rfl ?_
  refine k_nil ?_
  refine k_seq ?_
  refine awp_seq ?_
  refine awp_seq ?_
  refine awp_region ?_
  refine r_move rfl (by conv => lhs; whnf) rfl ?_
  refine r_move rfl (by conv => lhs; whnf) rfl ?_
  refine r_binB rfl (by conv => lhs; whnf) (by conv => lhs; whnf) yU4e rfl rfl ?_
  refine k_nil ?_
  refine k_seq ?_
  refine awp_cond rfl (fun hc => ?_) (fun hc => ?_)
  · exact absurd hc (by simp)
  clear hc
  refine awp_skip ?_
  refine k_seq ?_
  refine awp_seq ?_
  refine awp_seq ?_
  refine awp_draw yMixe (by kernel_rfl) ?_
  refine r_loadN rfl yA29e yS29e (by conv => lhs; whnf) (by conv => lhs; whnf) (by simp only [Core.take, Core.row_len, List.take_succ_cons, List.take_zero, List.drop_succ_cons, List.drop_zero, List.take_nil, List.drop_nil, List.nil_append, List.cons_append, List.append_nil, List.length_cons, List.length_nil, List.head?_cons, List.map_cons, List.map_nil, Nat.reduceAdd, Nat.zero_add, List.length_map]; omega) (by (try simp only [Core.take, Core.row_len, List.take_succ_cons, List.take_zero, List.drop_succ_cons, List.drop_zero, List.take_nil, List.drop_nil, List.nil_append, List.cons_append, List.append_nil, List.length_cons, List.length_nil, List.head?_cons, List.map_cons, List.map_nil, Nat.reduceAdd, Nat.zero_add, List.length_map]); rfl) (by simp only [fpOf, idOf, Option.getD_some, Option.getD_none, Op.operands, Call.operands, V.idsL, V.ids, idsL_t, List.append_nil, List.nil_append, List.cons_append, List.toList_toArray, List.map_toArray, List.size_toArray, List.append_toArray, ev_tmp, ev_const, ev_func, upd_at, slots_cons, slots_nil, objs_cons, objs_nil, Nat.reduceLT, Nat.reduceEqDiff, Nat.reduceAdd, reduceIte, if_true, if_false, ofVal, ofS, noOb, reduceCtorEq, List.take_succ_cons, List.take_zero, List.drop_succ_cons, List.drop_zero, List.take_nil, List.drop_nil, List.nil_append, List.cons_append, List.append_nil, List.length_cons, List.length_nil, List.head?_cons, List.map_cons, List.map_nil, Nat.reduceAdd, Nat.zero_add, List.length_map, Core.take, Core.row_len]; rfl) ?_
  refine r_loadN rfl yA42e yS42e (by conv => lhs; whnf) (by conv => lhs; whnf) (by simp only [Core.take, Core.row_len, List.take_succ_cons, List.take_zero, List.drop_succ_cons, List.drop_zero, List.take_nil, List.drop_nil, List.nil_append, List.cons_append, List.append_nil, List.length_cons, List.length_nil, List.head?_cons, List.map_cons, List.map_nil, Nat.reduceAdd, Nat.zero_add, List.length_map]; omega) (by (try simp only [Core.take, Core.row_len, List.take_succ_cons, List.take_zero, List.drop_succ_cons, List.drop_zero, List.take_nil, List.drop_nil, List.nil_append, List.cons_append, List.append_nil, List.length_cons, List.length_nil, List.head?_cons, List.map_cons, List.map_nil, Nat.reduceAdd, Nat.zero_add, List.length_map]); rfl) (by simp only [fpOf, idOf, Option.getD_some, Option.getD_none, Op.operands, Call.operands, V.idsL, V.ids, idsL_t, List.append_nil, List.nil_append, List.cons_append, List.toList_toArray, List.map_toArray, List.size_toArray, List.append_toArray, ev_tmp, ev_const, ev_func, upd_at, slots_cons, slots_nil, objs_cons, objs_nil, Nat.reduceLT, Nat.reduceEqDiff, Nat.reduceAdd, reduceIte, if_true, if_false, ofVal, ofS, noOb, reduceCtorEq, List.take_succ_cons, List.take_zero, List.drop_succ_cons, List.drop_zero, List.take_nil, List.drop_nil, List.nil_append, List.cons_append, List.append_nil, List.length_cons, List.length_nil, List.head?_cons, List.map_cons, List.map_nil, Nat.reduceAdd, Nat.zero_add, List.length_map, Core.take, Core.row_len]; rfl) ?_
  refine r_pure [] rfl rfl rfl (by conv => lhs; whnf) (by simp only [Core.take, Core.row_len, ev_tmp, ev_const, ev_func, upd_at, slots_cons, slots_nil, objs_cons, objs_nil, Nat.reduceLT, Nat.reduceEqDiff, Nat.reduceAdd, reduceIte, if_true, if_false, ofVal, ofS, noOb, reduceCtorEq, List.take_succ_cons, List.take_zero, List.drop_succ_cons, List.drop_zero, List.take_nil, List.drop_nil, List.nil_append, List.cons_append, List.append_nil, List.length_cons, List.length_nil, List.head?_cons, List.map_cons, List.map_nil, Nat.reduceAdd, Nat.zero_add, List.length_map, List.toList_toArray]; rfl) (by simp only [Core.take, Core.row_len, fzU, ev_tmp, ev_const, ev_func, upd_at, slots_cons, slots_nil, objs_cons, objs_nil, Nat.reduceLT, Nat.reduceEqDiff, Nat.reduceAdd, reduceIte, if_true, if_false, ofVal, ofS, noOb, reduceCtorEq]; rfl) (by simp only [app]; rfl) (toCore_ok a ha) (by exact ⟨(by first | exact pass_id rfl | exact pass_id (ids_row _) | exact .inr (.inl ⟨_, rfl, rfl, by simp [fz]⟩) | exact .inr (.inr ⟨_, _, rfl, rfl, rfl, by simp [fz]⟩)), trivial⟩) (by simp only [fpOf, Op.operands, Call.operands, V.idsL, V.ids, idsL_t, List.append_nil, List.nil_append, List.cons_append, List.map_toArray, List.append_toArray, Core.take, Core.row_len, ev_tmp, ev_const, ev_func, upd_at, slots_cons, slots_nil, objs_cons, objs_nil, Nat.reduceLT, Nat.reduceEqDiff, Nat.reduceAdd, reduceIte, if_true, if_false, ofVal, ofS, noOb, reduceCtorEq, List.take_succ_cons, List.take_zero, List.drop_succ_cons, List.drop_zero, List.take_nil, List.drop_nil, List.nil_append, List.cons_append, List.append_nil, List.length_cons, List.length_nil, List.head?_cons, List.map_cons, List.map_nil, Nat.reduceAdd, Nat.zero_add, List.length_map]; rfl) ?_
  refine r_pure [] rfl rfl rfl (by conv => lhs; whnf) (by simp only [Core.take, Core.row_len, ev_tmp, ev_const, ev_func, upd_at, slots_cons, slots_nil, objs_cons, objs_nil, Nat.reduceLT, Nat.reduceEqDiff, Nat.reduceAdd, reduceIte, if_true, if_false, ofVal, ofS, noOb, reduceCtorEq, List.take_succ_cons, List.take_zero, List.drop_succ_cons, List.drop_zero, List.take_nil, List.drop_nil, List.nil_append, List.cons_append, List.append_nil, List.length_cons, List.length_nil, List.head?_cons, List.map_cons, List.map_nil, Nat.reduceAdd, Nat.zero_add, List.length_map, List.toList_toArray]; rfl) (by simp only [Core.take, Core.row_len, fzU, ev_tmp, ev_const, ev_func, upd_at, slots_cons, slots_nil, objs_cons, objs_nil, Nat.reduceLT, Nat.reduceEqDiff, Nat.reduceAdd, reduceIte, if_true, if_false, ofVal, ofS, noOb, reduceCtorEq]; rfl) (by simp only [app]; rfl) (eqCore_ok a ha) (by exact ⟨(by first | exact pass_id rfl | exact pass_id (ids_row _) | exact .inr (.inl ⟨_, rfl, rfl, by simp [fz]⟩) | exact .inr (.inr ⟨_, _, rfl, rfl, rfl, by simp [fz]⟩)), (by first | exact pass_id rfl | exact pass_id (ids_row _) | exact .inr (.inl ⟨_, rfl, rfl, by simp [fz]⟩) | exact .inr (.inr ⟨_, _, rfl, rfl, rfl, by simp [fz]⟩)), trivial⟩) (by simp only [fpOf, Op.operands, Call.operands, V.idsL, V.ids, idsL_t, List.append_nil, List.nil_append, List.cons_append, List.map_toArray, List.append_toArray, Core.take, Core.row_len, ev_tmp, ev_const, ev_func, upd_at, slots_cons, slots_nil, objs_cons, objs_nil, Nat.reduceLT, Nat.reduceEqDiff, Nat.reduceAdd, reduceIte, if_true, if_false, ofVal, ofS, noOb, reduceCtorEq, List.take_succ_cons, List.take_zero, List.drop_succ_cons, List.drop_zero, List.take_nil, List.drop_nil, List.nil_append, List.cons_append, List.append_nil, List.length_cons, List.length_nil, List.head?_cons, List.map_cons, List.map_nil, Nat.reduceAdd, Nat.zero_add, List.length_map]; rfl) ?_
  refine r_un rfl (by conv => lhs; whnf) (by conv => lhs; whnf) (by simp only [fpOf, idOf, Option.getD_some, Option.getD_none, Op.operands, Call.operands, V.idsL, V.ids, idsL_t, List.append_nil, List.nil_append, List.cons_append, List.toList_toArray, List.map_toArray, List.size_toArray, List.append_toArray, ev_tmp, ev_const, ev_func, upd_at, slots_cons, slots_nil, objs_cons, objs_nil, Nat.reduceLT, Nat.reduceEqDiff, Nat.reduceAdd, reduceIte, if_true, if_false, ofVal, ofS, noOb, reduceCtorEq, List.take_succ_cons, List.take_zero, List.drop_succ_cons, List.drop_zero, List.take_nil, List.drop_nil, List.nil_append, List.cons_append, List.append_nil, List.length_cons, List.length_nil, List.head?_cons, List.map_cons, List.map_nil, Nat.reduceAdd, Nat.zero_add, List.length_map, Core.take, Core.row_len]; rfl) ?_
  refine k_nilD (by simp only [List.reverse_cons, List.reverse_nil, List.nil_append, List.cons_append]; kernel_rfl) ?_
  refine k_seq ?_
  refine awp_cond rfl (fun hc => ?_) (fun hc => ?_)
  · exact absurd hc (by simp)
  clear hc
  refine awp_skip ?_
  refine k_seq ?_
  refine awp_seq ?_
  refine awp_seq ?_
  refine awp_draw yMixe (by kernel_rfl) ?_
  refine r_loadN rfl yA29e yS29e (by conv => lhs; whnf) (by conv => lhs; whnf) (by simp only [Core.take, Core.row_len, List.take_succ_cons, List.take_zero, List.drop_succ_cons, List.drop_zero, List.take_nil, List.drop_nil, List.nil_append, List.cons_append, List.append_nil, List.length_cons, List.length_nil, List.head?_cons, List.map_cons, List.map_nil, Nat.reduceAdd, Nat.zero_add, List.length_map]; omega) (by (try simp only [Core.take, Core.row_len, List.take_succ_cons, List.take_zero, List.drop_succ_cons, List.drop_zero, List.take_nil, List.drop_nil, List.nil_append, List.cons_append, List.append_nil, List.length_cons, List.length_nil, List.head?_cons, List.map_cons, List.map_nil, Nat.reduceAdd, Nat.zero_add, List.length_map]); rfl) (by simp only [fpOf, idOf, Option.getD_some, Option.getD_none, Op.operands, Call.operands, V.idsL, V.ids, idsL_t, List.append_nil, List.nil_append, List.cons_append, List.toList_toArray, List.map_toArray, List.size_toArray, List.append_toArray, ev_tmp, ev_const, ev_func, upd_at, slots_cons, slots_nil, objs_cons, objs_nil, Nat.reduceLT, Nat.reduceEqDiff, Nat.reduceAdd, reduceIte, if_true, if_false, ofVal, ofS, noOb, reduceCtorEq, List.take_succ_cons, List.take_zero, List.drop_succ_cons, List.drop_zero, List.take_nil, List.drop_nil, List.nil_append, List.cons_append, List.append_nil, List.length_cons, List.length_nil, List.head?_cons, List.map_cons, List.map_nil, Nat.reduceAdd, Nat.zero_add, List.length_map, Core.take, Core.row_len]; rfl) ?_
  refine r_loadN rfl yA42e yS42e (by conv => lhs; whnf) (by conv => lhs; whnf) (by simp only [Core.take, Core.row_len, List.take_succ_cons, List.take_zero, List.drop_succ_cons, List.drop_zero, List.take_nil, List.drop_nil, List.nil_append, List.cons_append, List.append_nil, List.length_cons, List.length_nil, List.head?_cons, List.map_cons, List.map_nil, Nat.reduceAdd, Nat.zero_add, List.length_map]; omega) (by (try simp only [Core.take, Core.row_len, List.take_succ_cons, List.take_zero, List.drop_succ_cons, List.drop_zero, List.take_nil, List.drop_nil, List.nil_append, List.cons_append, List.append_nil, List.length_cons, List.length_nil, List.head?_cons, List.map_cons, List.map_nil, Nat.reduceAdd, Nat.zero_add, List.length_map]); rfl) (by simp only [fpOf, idOf, Option.getD_some, Option.getD_none, Op.operands, Call.operands, V.idsL, V.ids, idsL_t, List.append_nil, List.nil_append, List.cons_append, List.toList_toArray, List.map_toArray, List.size_toArray, List.append_toArray, ev_tmp, ev_const, ev_func, upd_at, slots_cons, slots_nil, objs_cons, objs_nil, Nat.reduceLT, Nat.reduceEqDiff, Nat.reduceAdd, reduceIte, if_true, if_false, ofVal, ofS, noOb, reduceCtorEq, List.take_succ_cons, List.take_zero, List.drop_succ_cons, List.drop_zero, List.take_nil, List.drop_nil, List.nil_append, List.cons_append, List.append_nil, List.length_cons, List.length_nil, List.head?_cons, List.map_cons, List.map_nil, Nat.reduceAdd, Nat.zero_add, List.length_map, Core.take, Core.row_len]; rfl) ?_
  refine r_pure [] rfl rfl rfl (by conv => lhs; whnf) (by simp only [Core.take, Core.row_len, ev_tmp, ev_const, ev_func, upd_at, slots_cons, slots_nil, objs_cons, objs_nil, Nat.reduceLT, Nat.reduceEqDiff, Nat.reduceAdd, reduceIte, if_true, if_false, ofVal, ofS, noOb, reduceCtorEq, List.take_succ_cons, List.take_zero, List.drop_succ_cons, List.drop_zero, List.take_nil, List.drop_nil, List.nil_append, List.cons_append, List.append_nil, List.length_cons, List.length_nil, List.head?_cons, List.map_cons, List.map_nil, Nat.reduceAdd, Nat.zero_add, List.length_map, List.toList_toArray]; rfl) (by simp only [Core.take, Core.row_len, fzU, ev_tmp, ev_const, ev_func, upd_at, slots_cons, slots_nil, objs_cons, objs_nil, Nat.reduceLT, Nat.reduceEqDiff, Nat.reduceAdd, reduceIte, if_true, if_false, ofVal, ofS, noOb, reduceCtorEq]; rfl) (by simp only [app]; rfl) (toCore_ok b hb) (by exact ⟨(by first | exact pass_id rfl | exact pass_id (ids_row _) | exact .inr (.inl ⟨_, rfl, rfl, by simp [fz]⟩) | exact .inr (.inr ⟨_, _, rfl, rfl, rfl, by simp [fz]⟩)), trivial⟩) (by simp only [fpOf, Op.operands, Call.operands, V.idsL, V.ids, idsL_t, List.append_nil, List.nil_append, List.cons_append, List.map_toArray, List.append_toArray, Core.take, Core.row_len, ev_tmp, ev_const, ev_func, upd_at, slots_cons, slots_nil, objs_cons, objs_nil, Nat.reduceLT, Nat.reduceEqDiff, Nat.reduceAdd, reduceIte, if_true, if_false, ofVal, ofS, noOb, reduceCtorEq, List.take_succ_cons, List.take_zero, List.drop_succ_cons, List.drop_zero, List.take_nil, List.drop_nil, List.nil_append, List.cons_append, List.append_nil, List.length_cons, List.length_nil, List.head?_cons, List.map_cons, List.map_nil, Nat.reduceAdd, Nat.zero_add, List.length_map]; rfl) ?_
  refine r_pure [] rfl rfl rfl (by conv => lhs; whnf) (by simp only [Core.take, Core.row_len, ev_tmp, ev_const, ev_func, upd_at, slots_cons, slots_nil, objs_cons, objs_nil, Nat.reduceLT, Nat.reduceEqDiff, Nat.reduceAdd, reduceIte, if_true, if_false, ofVal, ofS, noOb, reduceCtorEq, List.take_succ_cons, List.take_zero, List.drop_succ_cons, List.drop_zero, List.take_nil, List.drop_nil, List.nil_append, List.cons_append, List.append_nil, List.length_cons, List.length_nil, List.head?_cons, List.map_cons, List.map_nil, Nat.reduceAdd, Nat.zero_add, List.length_map, List.toList_toArray]; rfl) (by simp only [Core.take, Core.row_len, fzU, ev_tmp, ev_const, ev_func, upd_at, slots_cons, slots_nil, objs_cons, objs_nil, Nat.reduceLT, Nat.reduceEqDiff, Nat.reduceAdd, reduceIte, if_true, if_false, ofVal, ofS, noOb, reduceCtorEq]; rfl) (by simp only [app]; rfl) (eqCore_ok b hb) (by exact ⟨(by first | exact pass_id rfl | exact pass_id (ids_row _) | exact .inr (.inl ⟨_, rfl, rfl, by simp [fz]⟩) | exact .inr (.inr ⟨_, _, rfl, rfl, rfl, by simp [fz]⟩)), (by first | exact pass_id rfl | exact pass_id (ids_row _) | exact .inr (.inl ⟨_, rfl, rfl, by simp [fz]⟩) | exact .inr (.inr ⟨_, _, rfl, rfl, rfl, by simp [fz]⟩)), trivial⟩) (by simp only [fpOf, Op.operands, Call.operands, V.idsL, V.ids, idsL_t, List.append_nil, List.nil_append, List.cons_append, List.map_toArray, List.append_toArray, Core.take, Core.row_len, ev_tmp, ev_const, ev_func, upd_at, slots_cons, slots_nil, objs_cons, objs_nil, Nat.reduceLT, Nat.reduceEqDiff, Nat.reduceAdd, reduceIte, if_true, if_false, ofVal, ofS, noOb, reduceCtorEq, List.take_succ_cons, List.take_zero, List.drop_succ_cons, List.drop_zero, List.take_nil, List.drop_nil, List.nil_append, List.cons_append, List.append_nil, List.length_cons, List.length_nil, List.head?_cons, List.map_cons, List.map_nil, Nat.reduceAdd, Nat.zero_add, List.length_map]; rfl) ?_
  refine r_un rfl (by conv => lhs; whnf) (by conv => lhs; whnf) (by simp only [fpOf, idOf, Option.getD_some, Option.getD_none, Op.operands, Call.operands, V.idsL, V.ids, idsL_t, List.append_nil, List.nil_append, List.cons_append, List.toList_toArray, List.map_toArray, List.size_toArray, List.append_toArray, ev_tmp, ev_const, ev_func, upd_at, slots_cons, slots_nil, objs_cons, objs_nil, Nat.reduceLT, Nat.reduceEqDiff, Nat.reduceAdd, reduceIte, if_true, if_false, ofVal, ofS, noOb, reduceCtorEq, List.take_succ_cons, List.take_zero, List.drop_succ_cons, List.drop_zero, List.take_nil, List.drop_nil, List.nil_append, List.cons_append, List.append_nil, List.length_cons, List.length_nil, List.head?_cons, List.map_cons, List.map_nil, Nat.reduceAdd, Nat.zero_add, List.length_map, Core.take, Core.row_len]; rfl) ?_
  refine k_nilD (by simp only [List.reverse_cons, List.reverse_nil, List.nil_append, List.cons_append]; kernel_rfl) ?_
  refine k_seq ?_
  refine awp_cond rfl (fun hc => ?_) (fun hc => ?_)
  · exact absurd hc (by simp)
  clear hc
  refine awp_skip ?_
  refine k_seq ?_
  refine awp_seq ?_
  refine awp_region ?_
  refine r_assign rfl (by conv => lhs; whnf) rfl ?_
  refine k_nil ?_
  refine k_seq ?_
  refine awp_ret ?_
  refine k_fin ?_
  refine ends_pure [] (by simp only [Try.results6, resOf, Core.take, Core.row_len, ev_tmp, ev_const, ev_func, upd_at, slots_cons, slots_nil, objs_cons, objs_nil, Nat.reduceLT, Nat.reduceEqDiff, Nat.reduceAdd, reduceIte, if_true, if_false, ofVal, ofS, noOb, reduceCtorEq]; rfl) (by skip; exact ⟨give_id _, trivial⟩) (by simp [V.idsL, V.ids])
end Go.Abs
