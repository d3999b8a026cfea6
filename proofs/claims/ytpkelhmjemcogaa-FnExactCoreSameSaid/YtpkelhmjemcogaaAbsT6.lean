/- A part of the proof: contracts of the functions that the law calls, on pure values. -/
import Derived.Test.YtpkelhmjemcogaaAbsT5
set_option linter.unusedSimpArgs false
set_option maxHeartbeats 4000000
set_option linter.unusedVariables false
namespace Go.Abs
open Go.Proofs
theorem yF26_0e : fldOf Try.prog 26 0 = some (0, 3) := by kernel_rfl
theorem yA3e : aggOf Try.prog 3 = some false := by kernel_rfl
theorem yF26_4e : fldOf Try.prog 26 4 = some (4, 24) := by kernel_rfl
theorem yA24e : aggOf Try.prog 24 = some false := by kernel_rfl
theorem yU24e : Try.prog.underlying 24 = some (.slice 26) := by kernel_rfl
theorem yMixe : Try.prog.follows .mixedOrders = true := by kernel_rfl
theorem yE24e : elOf Try.prog 24 = some (26, 5) := by kernel_rfl
theorem yA26e : aggOf Try.prog 26 = some true := by kernel_rfl
theorem yS26e : szOf Try.prog 26 = some 5 := by kernel_rfl
theorem yF26_1e : fldOf Try.prog 26 1 = some (1, 9) := by kernel_rfl
theorem yA9e : aggOf Try.prog 9 = some false := by kernel_rfl
theorem yF26_2e : fldOf Try.prog 26 2 = some (2, 3) := by kernel_rfl
theorem yF26_3e : fldOf Try.prog 26 3 = some (3, 23) := by kernel_rfl
theorem yA23e : aggOf Try.prog 23 = some false := by kernel_rfl
theorem yF29_0e : fldOf Try.prog 29 0 = some (0, 3) := by kernel_rfl
theorem yF29_6e : fldOf Try.prog 29 6 = some (10, 27) := by kernel_rfl
theorem yA27e : aggOf Try.prog 27 = some false := by kernel_rfl
theorem yU27e : Try.prog.underlying 27 = some (.slice 29) := by kernel_rfl
theorem yE27e : elOf Try.prog 27 = some (29, 11) := by kernel_rfl
theorem yA29e : aggOf Try.prog 29 = some true := by kernel_rfl
theorem yS29e : szOf Try.prog 29 = some 11 := by kernel_rfl
theorem yF29_1e : fldOf Try.prog 29 1 = some (1, 3) := by kernel_rfl
theorem yF29_2e : fldOf Try.prog 29 2 = some (2, 9) := by kernel_rfl
theorem yF29_3e : fldOf Try.prog 29 3 = some (3, 3) := by kernel_rfl
theorem yF29_4e : fldOf Try.prog 29 4 = some (4, 23) := by kernel_rfl
theorem yF29_5e : fldOf Try.prog 29 5 = some (5, 26) := by kernel_rfl
theorem yA42e : aggOf Try.prog 42 = some true := by kernel_rfl
theorem yS42e : szOf Try.prog 42 = some 11 := by kernel_rfl
theorem yZ29e : zcells Try.prog 29 = some [.t (.sc (.int .i64 0)), .t (.sc (.int .i64 0)), .t (.sc (.str ⟨#[]⟩)), .t (.sc (.int .i64 0)), .nl, .t (.sc (.int .i64 0)), .t (.sc (.str ⟨#[]⟩)), .t (.sc (.int .i64 0)), .nl, .nl, .nl] := by kernel_rfl
theorem yU4e : Try.prog.underlying 4 = some .bool := by kernel_rfl
theorem specFormSame_ok : ∀ (a b : Form), T.wtL a.row ≤ 2 ^ 30 → T.wtL b.row ≤ 2 ^ 30 → AC Try.prog 34 [.ag (a.row.map .t), .ag (b.row.map .t)] noOb (vb (eqb a b)) noOb
  | (Form.mk kind name n scopes kids), (Form.mk z_kind z_name z_n z_scopes z_kids), hl, hr => by
    rw [Form.row_mk] at hl hr ⊢
    rw [Form.row_mk]
    simp only [T.wtL, T.wt, S.wt, T.wtR_ints, List.length_map] at hl hr
    refine AC_intro (rs := [_]) Try.func34 rfl (by kernel_rfl) (by simp [Try.ntmps34]) (by simp [noOb]) ?_
    intro C hC
    rw [Try.ntmps34]
    refine awp_seq ?_
    refine awp_region ?_
    refine r_box rfl (by conv => lhs; whnf) rfl (by conv => lhs; whnf) rfl rfl ?_
    refine r_box rfl (by conv => lhs; whnf) rfl (by conv => lhs; whnf) rfl rfl ?_
    refine r_assign rfl (by conv => lhs; whnf) rfl ?_
    refine k_nil ?_
    refine k_seq ?_
    refine awp_seq ?_
    refine awp_seq ?_
    refine awp_region ?_
    refine r_fieldAddr rfl yF26_0e (by conv => lhs; whnf) (by conv => lhs; whnf) rfl ?_
    refine r_load1 rfl yA3e (by conv => lhs; whnf) (by conv => lhs; whnf) (by (try simp only [List.take_succ_cons, List.take_zero, List.drop_succ_cons, List.drop_zero, List.take_nil, List.drop_nil, List.nil_append, List.cons_append, List.append_nil, List.length_cons, List.length_nil, List.head?_cons, List.map_cons, List.map_nil, Nat.reduceAdd, Nat.zero_add, List.length_map]); rfl) rfl ?_
    refine r_fieldAddr rfl yF26_0e (by conv => lhs; whnf) (by conv => lhs; whnf) rfl ?_
    refine r_load1 rfl yA3e (by conv => lhs; whnf) (by conv => lhs; whnf) (by (try simp only [List.take_succ_cons, List.take_zero, List.drop_succ_cons, List.drop_zero, List.take_nil, List.drop_nil, List.nil_append, List.cons_append, List.append_nil, List.length_cons, List.length_nil, List.head?_cons, List.map_cons, List.map_nil, Nat.reduceAdd, Nat.zero_add, List.length_map]); rfl) rfl ?_
    refine r_bin rfl (by conv => lhs; whnf) (by conv => lhs; whnf) (by simp only [abin, reduceIte, ne_eq, decide_not, Bool.not_true, Bool.not_false]; rfl) rfl ?_
    refine r_move rfl (by conv => lhs; whnf) rfl ?_
    refine g_split (d := 11) (by conv => lhs; whnf) (fun hg1 => ?_) (fun hg1 => ?_)
    · rw [hg1]
      refine r_no rfl ?_
      refine r_no rfl ?_
      refine r_no rfl ?_
      refine r_no rfl ?_
      refine r_no rfl ?_
      refine r_pick rfl (by conv => lhs; whnf) (by conv => lhs; whnf) rfl ?_
      refine r_move rfl (by conv => lhs; whnf) rfl ?_
      refine r_no rfl ?_
      refine r_no rfl ?_
      refine r_no rfl ?_
      refine r_no rfl ?_
      refine r_no rfl ?_
      refine r_pick rfl (by conv => lhs; whnf) (by conv => lhs; whnf) rfl ?_
      refine r_move rfl (by conv => lhs; whnf) rfl ?_
      refine r_no rfl ?_
      refine r_no rfl ?_
      refine r_no rfl ?_
      refine r_no rfl ?_
      refine r_no rfl ?_
      refine r_no rfl ?_
      refine r_pick rfl (by conv => lhs; whnf) (by conv => lhs; whnf) rfl ?_
      refine r_move rfl (by conv => lhs; whnf) rfl ?_
      refine r_no rfl ?_
      refine r_no rfl ?_
      refine r_no rfl ?_
      refine r_no rfl ?_
      refine r_no rfl ?_
      refine r_no rfl ?_
      refine r_no rfl ?_
      refine r_pick rfl (by conv => lhs; whnf) (by conv => lhs; whnf) rfl ?_
      refine k_nil ?_
      refine k_seq ?_
      refine awp_cond rfl (fun hg2 => ?_) (fun hg2 => ?_)
      · refine awp_seq ?_
        refine awp_region ?_
        refine r_assign rfl (by conv => lhs; whnf) rfl ?_
        refine k_nil ?_
        refine k_seq ?_
        refine awp_ret ?_
        refine k_seq_ret ?_
        refine k_fin ?_
        refine ends_pure [] (by simp only [Try.results34, resOf, ev_tmp, ev_const, ev_func, upd_at, slots_cons, slots_nil, objs_cons, objs_nil, Nat.reduceLT, Nat.reduceEqDiff, Nat.reduceAdd, reduceIte, if_true, if_false, ofVal, ofS, noOb, reduceCtorEq]; rfl) (by
          refine ⟨.inl (congrArg (fun b => V.t (.sc (.bool b))) ?_), trivial⟩
          rw [Bool.eq_iff_iff]
          simp only [eqb_iff, Bool.false_eq_true, decide_eq_true_eq, Core.mk.injEq, Form.mk.injEq, Step.mk.injEq, Bind.mk.injEq, Hit.mk.injEq, Rule.mk.injEq, Macro.mk.injEq, Expansion.mk.injEq]
          simp_all [eqb_iff, eqb_not, -List.map_inj_left] <;> (try (intro e; subst e; simp_all))) (by simp [V.idsL, V.ids])
      · refine awp_skip ?_
        refine k_seq ?_
        refine awp_seq ?_
        refine awp_seq ?_
        refine awp_region ?_
        refine r_assign rfl (by conv => lhs; whnf) rfl ?_
        refine k_nil ?_
        refine k_seq ?_
        refine awp_block ?_
        have hAll : kind = z_kind ∧ name = z_name ∧ n = z_n ∧ scopes = z_scopes ∧ kids.length = z_kids.length := by simp_all [eqb_iff, eqb_not] <;> omega
        obtain ⟨rfl, rfl, rfl, rfl, hlen⟩ := hAll
        skip
        have hred : eqb (Form.mk kind name n scopes kids) (Form.mk kind name n scopes z_kids) = eqb kids z_kids := by rw [Bool.eq_iff_iff]; simp [eqb_iff]
        rw [hred]
        refine awp_frame [4, 5, 42, 43, 44, 45, 46, 47, 48, 49, 50, 51, 52, 53, 54, 55, 56, 57, 58, 59, 60] [] [] (fun j : Nat => kids.length - j) (fun j : Nat => [(5, vi j)]) (fun j : Nat => []) (fun j => j ≤ kids.length ∧ kids.take j = z_kids.take j) 0 ⟨Nat.zero_le _, by simp⟩ (by rfl) (by rfl) (fun _ => rfl) (hasF_cons (by conv => lhs; whnf) (by first | rfl | simp) (by first | rfl | simp [V.ids, V.idsL, idsL_t, Ob.ids]) trivial) trivial ?_
        rintro j ⟨hj, htk⟩
        refine awp_seq ?_
        refine awp_seq ?_
        refine awp_region ?_
        refine r_move rfl (by conv => lhs; whnf) rfl ?_
        refine r_fieldAddr rfl yF26_4e (by conv => lhs; whnf) (by conv => lhs; whnf) rfl ?_
        refine r_load1 rfl yA24e (by conv => lhs; whnf) (by conv => lhs; whnf) (by (try simp only [List.length_map, List.take_succ_cons, List.take_zero, List.drop_succ_cons, List.drop_zero, List.take_nil, List.drop_nil, List.nil_append, List.cons_append, List.append_nil, List.length_cons, List.length_nil, List.head?_cons, List.map_cons, List.map_nil, Nat.reduceAdd, Nat.zero_add, List.length_map]); rfl) rfl ?_
        refine r_len rfl yU24e (by conv => lhs; whnf) (by conv => lhs; whnf) rfl ?_
        refine r_bin rfl (by conv => lhs; whnf) (by conv => lhs; whnf) (by simp only [List.length_map, abin, reduceIte, ne_eq, decide_not, Bool.not_true, Bool.not_false]; rfl) rfl ?_
        refine k_nil ?_
        refine k_seq ?_
        refine awp_cond rfl (fun hc => ?_) (fun hc => ?_)
        · have hlt : j < kids.length := by have := of_decide_eq_true hc; omega
          have hlt2 : j < z_kids.length := by omega
          have hgl := map_get Form.row kids j hlt
          have hgr := map_get Form.row z_kids j hlt2
          have hw1 := IntWalk.i64_in ((j : Int) + 1) (by omega)
          clear hc
          have hle := T.wtR_le Form.row kids (j + 1)
          have hsucc := T.wtR_succ Form.row kids j hlt
          have hle2 := T.wtR_le Form.row z_kids (j + 1)
          have hsucc2 := T.wtR_succ Form.row z_kids j hlt2
          have hmem : kids[j] ∈ kids := List.getElem_mem hlt
          have hkid := specFormSame_ok kids[j] z_kids[j] (by omega) (by omega)
          refine awp_skip ?_
          refine k_seq ?_
          refine awp_seq ?_
          refine awp_block ?_
          refine awp_seq ?_
          refine awp_draw yMixe (by kernel_rfl) ?_
          refine r_fieldAddr rfl yF26_4e (by conv => lhs; whnf) (by conv => lhs; whnf) (by simp only [fpOf, idOf, Option.getD_some, Option.getD_none, Op.operands, Call.operands, V.idsL, V.ids, idsL_t, List.append_nil, List.nil_append, List.cons_append, List.toList_toArray, List.map_toArray, List.size_toArray, List.append_toArray, ev_tmp, ev_const, ev_func, upd_at, slots_cons, slots_nil, objs_cons, objs_nil, Nat.reduceLT, Nat.reduceEqDiff, Nat.reduceAdd, reduceIte, if_true, if_false, ofVal, ofS, noOb, reduceCtorEq, List.take_succ_cons, List.take_zero, List.drop_succ_cons, List.drop_zero, List.take_nil, List.drop_nil, List.nil_append, List.cons_append, List.append_nil, List.length_cons, List.length_nil, List.head?_cons, List.map_cons, List.map_nil, Nat.reduceAdd, Nat.zero_add, List.length_map, hgl, hgr, Form.row_len, Form.take, List.length_map]; rfl) ?_
          refine r_load1 rfl yA24e (by conv => lhs; whnf) (by conv => lhs; whnf) (by (try simp only [hgl, hgr, Form.row_len, Form.take, List.length_map, List.take_succ_cons, List.take_zero, List.drop_succ_cons, List.drop_zero, List.take_nil, List.drop_nil, List.nil_append, List.cons_append, List.append_nil, List.length_cons, List.length_nil, List.head?_cons, List.map_cons, List.map_nil, Nat.reduceAdd, Nat.zero_add, List.length_map]); rfl) (by simp only [fpOf, idOf, Option.getD_some, Option.getD_none, Op.operands, Call.operands, V.idsL, V.ids, idsL_t, List.append_nil, List.nil_append, List.cons_append, List.toList_toArray, List.map_toArray, List.size_toArray, List.append_toArray, ev_tmp, ev_const, ev_func, upd_at, slots_cons, slots_nil, objs_cons, objs_nil, Nat.reduceLT, Nat.reduceEqDiff, Nat.reduceAdd, reduceIte, if_true, if_false, ofVal, ofS, noOb, reduceCtorEq, List.take_succ_cons, List.take_zero, List.drop_succ_cons, List.drop_zero, List.take_nil, List.drop_nil, List.nil_append, List.cons_append, List.append_nil, List.length_cons, List.length_nil, List.head?_cons, List.map_cons, List.map_nil, Nat.reduceAdd, Nat.zero_add, List.length_map, hgl, hgr, Form.row_len, Form.take, List.length_map]; rfl) ?_
          refine r_move rfl (by conv => lhs; whnf) (by simp only [fpOf, idOf, Option.getD_some, Option.getD_none, Op.operands, Call.operands, V.idsL, V.ids, idsL_t, List.append_nil, List.nil_append, List.cons_append, List.toList_toArray, List.map_toArray, List.size_toArray, List.append_toArray, ev_tmp, ev_const, ev_func, upd_at, slots_cons, slots_nil, objs_cons, objs_nil, Nat.reduceLT, Nat.reduceEqDiff, Nat.reduceAdd, reduceIte, if_true, if_false, ofVal, ofS, noOb, reduceCtorEq, List.take_succ_cons, List.take_zero, List.drop_succ_cons, List.drop_zero, List.take_nil, List.drop_nil, List.nil_append, List.cons_append, List.append_nil, List.length_cons, List.length_nil, List.head?_cons, List.map_cons, List.map_nil, Nat.reduceAdd, Nat.zero_add, List.length_map, hgl, hgr, Form.row_len, Form.take, List.length_map]; rfl) ?_
          refine r_indexAddr rfl yE24e (by conv => lhs; whnf) (by conv => lhs; whnf) (by omega) (by simp only [hgl, hgr, Form.row_len, Form.take, List.length_map, indexP, ev_tmp, ev_const, ev_func, upd_at, slots_cons, slots_nil, objs_cons, objs_nil, Nat.reduceLT, Nat.reduceEqDiff, Nat.reduceAdd, reduceIte, if_true, if_false, ofVal, ofS, noOb, reduceCtorEq]; rfl) (by simp only [fpOf, idOf, Option.getD_some, Option.getD_none, Op.operands, Call.operands, V.idsL, V.ids, idsL_t, List.append_nil, List.nil_append, List.cons_append, List.toList_toArray, List.map_toArray, List.size_toArray, List.append_toArray, ev_tmp, ev_const, ev_func, upd_at, slots_cons, slots_nil, objs_cons, objs_nil, Nat.reduceLT, Nat.reduceEqDiff, Nat.reduceAdd, reduceIte, if_true, if_false, ofVal, ofS, noOb, reduceCtorEq, List.take_succ_cons, List.take_zero, List.drop_succ_cons, List.drop_zero, List.take_nil, List.drop_nil, List.nil_append, List.cons_append, List.append_nil, List.length_cons, List.length_nil, List.head?_cons, List.map_cons, List.map_nil, Nat.reduceAdd, Nat.zero_add, List.length_map, hgl, hgr, Form.row_len, Form.take, List.length_map]; rfl) ?_
          refine r_loadN rfl yA26e yS26e (by conv => lhs; whnf) (by conv => lhs; whnf) (by simp only [hgl, hgr, Form.row_len, Form.take, List.length_map, List.take_succ_cons, List.take_zero, List.drop_succ_cons, List.drop_zero, List.take_nil, List.drop_nil, List.nil_append, List.cons_append, List.append_nil, List.length_cons, List.length_nil, List.head?_cons, List.map_cons, List.map_nil, Nat.reduceAdd, Nat.zero_add, List.length_map]; omega) (by (try simp only [hgl, hgr, Form.row_len, Form.take, List.length_map, List.take_succ_cons, List.take_zero, List.drop_succ_cons, List.drop_zero, List.take_nil, List.drop_nil, List.nil_append, List.cons_append, List.append_nil, List.length_cons, List.length_nil, List.head?_cons, List.map_cons, List.map_nil, Nat.reduceAdd, Nat.zero_add, List.length_map]); rfl) (by simp only [fpOf, idOf, Option.getD_some, Option.getD_none, Op.operands, Call.operands, V.idsL, V.ids, idsL_t, List.append_nil, List.nil_append, List.cons_append, List.toList_toArray, List.map_toArray, List.size_toArray, List.append_toArray, ev_tmp, ev_const, ev_func, upd_at, slots_cons, slots_nil, objs_cons, objs_nil, Nat.reduceLT, Nat.reduceEqDiff, Nat.reduceAdd, reduceIte, if_true, if_false, ofVal, ofS, noOb, reduceCtorEq, List.take_succ_cons, List.take_zero, List.drop_succ_cons, List.drop_zero, List.take_nil, List.drop_nil, List.nil_append, List.cons_append, List.append_nil, List.length_cons, List.length_nil, List.head?_cons, List.map_cons, List.map_nil, Nat.reduceAdd, Nat.zero_add, List.length_map, hgl, hgr, Form.row_len, Form.take, List.length_map]; rfl) ?_
          refine r_fieldAddr rfl yF26_4e (by conv => lhs; whnf) (by conv => lhs; whnf) (by simp only [fpOf, idOf, Option.getD_some, Option.getD_none, Op.operands, Call.operands, V.idsL, V.ids, idsL_t, List.append_nil, List.nil_append, List.cons_append, List.toList_toArray, List.map_toArray, List.size_toArray, List.append_toArray, ev_tmp, ev_const, ev_func, upd_at, slots_cons, slots_nil, objs_cons, objs_nil, Nat.reduceLT, Nat.reduceEqDiff, Nat.reduceAdd, reduceIte, if_true, if_false, ofVal, ofS, noOb, reduceCtorEq, List.take_succ_cons, List.take_zero, List.drop_succ_cons, List.drop_zero, List.take_nil, List.drop_nil, List.nil_append, List.cons_append, List.append_nil, List.length_cons, List.length_nil, List.head?_cons, List.map_cons, List.map_nil, Nat.reduceAdd, Nat.zero_add, List.length_map, hgl, hgr, Form.row_len, Form.take, List.length_map]; rfl) ?_
          refine r_load1 rfl yA24e (by conv => lhs; whnf) (by conv => lhs; whnf) (by (try simp only [hgl, hgr, Form.row_len, Form.take, List.length_map, List.take_succ_cons, List.take_zero, List.drop_succ_cons, List.drop_zero, List.take_nil, List.drop_nil, List.nil_append, List.cons_append, List.append_nil, List.length_cons, List.length_nil, List.head?_cons, List.map_cons, List.map_nil, Nat.reduceAdd, Nat.zero_add, List.length_map]); rfl) (by simp only [fpOf, idOf, Option.getD_some, Option.getD_none, Op.operands, Call.operands, V.idsL, V.ids, idsL_t, List.append_nil, List.nil_append, List.cons_append, List.toList_toArray, List.map_toArray, List.size_toArray, List.append_toArray, ev_tmp, ev_const, ev_func, upd_at, slots_cons, slots_nil, objs_cons, objs_nil, Nat.reduceLT, Nat.reduceEqDiff, Nat.reduceAdd, reduceIte, if_true, if_false, ofVal, ofS, noOb, reduceCtorEq, List.take_succ_cons, List.take_zero, List.drop_succ_cons, List.drop_zero, List.take_nil, List.drop_nil, List.nil_append, List.cons_append, List.append_nil, List.length_cons, List.length_nil, List.head?_cons, List.map_cons, List.map_nil, Nat.reduceAdd, Nat.zero_add, List.length_map, hgl, hgr, Form.row_len, Form.take, List.length_map]; rfl) ?_
          refine r_move rfl (by conv => lhs; whnf) (by simp only [fpOf, idOf, Option.getD_some, Option.getD_none, Op.operands, Call.operands, V.idsL, V.ids, idsL_t, List.append_nil, List.nil_append, List.cons_append, List.toList_toArray, List.map_toArray, List.size_toArray, List.append_toArray, ev_tmp, ev_const, ev_func, upd_at, slots_cons, slots_nil, objs_cons, objs_nil, Nat.reduceLT, Nat.reduceEqDiff, Nat.reduceAdd, reduceIte, if_true, if_false, ofVal, ofS, noOb, reduceCtorEq, List.take_succ_cons, List.take_zero, List.drop_succ_cons, List.drop_zero, List.take_nil, List.drop_nil, List.nil_append, List.cons_append, List.append_nil, List.length_cons, List.length_nil, List.head?_cons, List.map_cons, List.map_nil, Nat.reduceAdd, Nat.zero_add, List.length_map, hgl, hgr, Form.row_len, Form.take, List.length_map]; rfl) ?_
          refine r_indexAddr rfl yE24e (by conv => lhs; whnf) (by conv => lhs; whnf) (by omega) (by simp only [hgl, hgr, Form.row_len, Form.take, List.length_map, indexP, ev_tmp, ev_const, ev_func, upd_at, slots_cons, slots_nil, objs_cons, objs_nil, Nat.reduceLT, Nat.reduceEqDiff, Nat.reduceAdd, reduceIte, if_true, if_false, ofVal, ofS, noOb, reduceCtorEq]; rfl) (by simp only [fpOf, idOf, Option.getD_some, Option.getD_none, Op.operands, Call.operands, V.idsL, V.ids, idsL_t, List.append_nil, List.nil_append, List.cons_append, List.toList_toArray, List.map_toArray, List.size_toArray, List.append_toArray, ev_tmp, ev_const, ev_func, upd_at, slots_cons, slots_nil, objs_cons, objs_nil, Nat.reduceLT, Nat.reduceEqDiff, Nat.reduceAdd, reduceIte, if_true, if_false, ofVal, ofS, noOb, reduceCtorEq, List.take_succ_cons, List.take_zero, List.drop_succ_cons, List.drop_zero, List.take_nil, List.drop_nil, List.nil_append, List.cons_append, List.append_nil, List.length_cons, List.length_nil, List.head?_cons, List.map_cons, List.map_nil, Nat.reduceAdd, Nat.zero_add, List.length_map, hgl, hgr, Form.row_len, Form.take, List.length_map]; rfl) ?_
          refine r_loadN rfl yA26e yS26e (by conv => lhs; whnf) (by conv => lhs; whnf) (by simp only [hgl, hgr, Form.row_len, Form.take, List.length_map, List.take_succ_cons, List.take_zero, List.drop_succ_cons, List.drop_zero, List.take_nil, List.drop_nil, List.nil_append, List.cons_append, List.append_nil, List.length_cons, List.length_nil, List.head?_cons, List.map_cons, List.map_nil, Nat.reduceAdd, Nat.zero_add, List.length_map]; omega) (by (try simp only [hgl, hgr, Form.row_len, Form.take, List.length_map, List.take_succ_cons, List.take_zero, List.drop_succ_cons, List.drop_zero, List.take_nil, List.drop_nil, List.nil_append, List.cons_append, List.append_nil, List.length_cons, List.length_nil, List.head?_cons, List.map_cons, List.map_nil, Nat.reduceAdd, Nat.zero_add, List.length_map]); rfl) (by simp only [fpOf, idOf, Option.getD_some, Option.getD_none, Op.operands, Call.operands, V.idsL, V.ids, idsL_t, List.append_nil, List.nil_append, List.cons_append, List.toList_toArray, List.map_toArray, List.size_toArray, List.append_toArray, ev_tmp, ev_const, ev_func, upd_at, slots_cons, slots_nil, objs_cons, objs_nil, Nat.reduceLT, Nat.reduceEqDiff, Nat.reduceAdd, reduceIte, if_true, if_false, ofVal, ofS, noOb, reduceCtorEq, List.take_succ_cons, List.take_zero, List.drop_succ_cons, List.drop_zero, List.take_nil, List.drop_nil, List.nil_append, List.cons_append, List.append_nil, List.length_cons, List.length_nil, List.head?_cons, List.map_cons, List.map_nil, Nat.reduceAdd, Nat.zero_add, List.length_map, hgl, hgr, Form.row_len, Form.take, List.length_map]; rfl) ?_
          refine r_pure [] rfl rfl rfl (by conv => lhs; whnf) (by simp only [hgl, hgr, Form.row_len, Form.take, List.length_map, ev_tmp, ev_const, ev_func, upd_at, slots_cons, slots_nil, objs_cons, objs_nil, Nat.reduceLT, Nat.reduceEqDiff, Nat.reduceAdd, reduceIte, if_true, if_false, ofVal, ofS, noOb, reduceCtorEq, List.take_succ_cons, List.take_zero, List.drop_succ_cons, List.drop_zero, List.take_nil, List.drop_nil, List.nil_append, List.cons_append, List.append_nil, List.length_cons, List.length_nil, List.head?_cons, List.map_cons, List.map_nil, Nat.reduceAdd, Nat.zero_add, List.length_map, List.toList_toArray]; rfl) (by simp only [hgl, hgr, Form.row_len, Form.take, List.length_map, fzU, ev_tmp, ev_const, ev_func, upd_at, slots_cons, slots_nil, objs_cons, objs_nil, Nat.reduceLT, Nat.reduceEqDiff, Nat.reduceAdd, reduceIte, if_true, if_false, ofVal, ofS, noOb, reduceCtorEq]; rfl) (by simp only [app]; rfl) (hkid) (by exact ⟨(by first | exact pass_id rfl | exact pass_id (ids_row _) | exact .inr (.inl ⟨_, rfl, rfl, by simp [fz]⟩) | exact .inr (.inr ⟨_, _, rfl, rfl, rfl, by simp [fz]⟩)), (by first | exact pass_id rfl | exact pass_id (ids_row _) | exact .inr (.inl ⟨_, rfl, rfl, by simp [fz]⟩) | exact .inr (.inr ⟨_, _, rfl, rfl, rfl, by simp [fz]⟩)), trivial⟩) (by simp only [fpOf, Op.operands, Call.operands, V.idsL, V.ids, idsL_t, List.append_nil, List.nil_append, List.cons_append, List.map_toArray, List.append_toArray, hgl, hgr, Form.row_len, Form.take, List.length_map, ev_tmp, ev_const, ev_func, upd_at, slots_cons, slots_nil, objs_cons, objs_nil, Nat.reduceLT, Nat.reduceEqDiff, Nat.reduceAdd, reduceIte, if_true, if_false, ofVal, ofS, noOb, reduceCtorEq, List.take_succ_cons, List.take_zero, List.drop_succ_cons, List.drop_zero, List.take_nil, List.drop_nil, List.nil_append, List.cons_append, List.append_nil, List.length_cons, List.length_nil, List.head?_cons, List.map_cons, List.map_nil, Nat.reduceAdd, Nat.zero_add, List.length_map]; rfl) ?_
          refine r_un rfl (by conv => lhs; whnf) (by conv => lhs; whnf) (by simp only [fpOf, idOf, Option.getD_some, Option.getD_none, Op.operands, Call.operands, V.idsL, V.ids, idsL_t, List.append_nil, List.nil_append, List.cons_append, List.toList_toArray, List.map_toArray, List.size_toArray, List.append_toArray, ev_tmp, ev_const, ev_func, upd_at, slots_cons, slots_nil, objs_cons, objs_nil, Nat.reduceLT, Nat.reduceEqDiff, Nat.reduceAdd, reduceIte, if_true, if_false, ofVal, ofS, noOb, reduceCtorEq, List.take_succ_cons, List.take_zero, List.drop_succ_cons, List.drop_zero, List.take_nil, List.drop_nil, List.nil_append, List.cons_append, List.append_nil, List.length_cons, List.length_nil, List.head?_cons, List.map_cons, List.map_nil, Nat.reduceAdd, Nat.zero_add, List.length_map, hgl, hgr, Form.row_len, Form.take, List.length_map]; rfl) ?_
          refine k_nilD (by simp only [List.reverse_cons, List.reverse_nil, List.nil_append, List.cons_append]; kernel_rfl) ?_
          refine k_seq ?_
          refine awp_cond rfl (fun hc => ?_) (fun hc => ?_)
          · have hne : eqb kids z_kids = false := (eqb_not _ _).2 (fun e => by subst e; simp [eqb] at hc)
            refine awp_seq ?_
            refine awp_region ?_
            refine r_assign rfl (by conv => lhs; whnf) rfl ?_
            refine k_nil ?_
            refine k_seq ?_
            refine awp_ret ?_
            refine k_blk_ret ?_
            refine k_seq_ret ?_
            refine k_rnd_ret ?_
            refine k_blk_ret ?_
            refine k_seq_ret ?_
            refine k_fin ?_
            refine ends_pure [] (by simp only [Try.results34, resOf, hgl, hgr, Form.row_len, Form.take, List.length_map, ev_tmp, ev_const, ev_func, upd_at, slots_cons, slots_nil, objs_cons, objs_nil, Nat.reduceLT, Nat.reduceEqDiff, Nat.reduceAdd, reduceIte, if_true, if_false, ofVal, ofS, noOb, reduceCtorEq]; rfl) (by rw [hne]; exact ⟨give_id _, trivial⟩) (by simp [V.idsL, V.ids])
          · have he : kids[j] = z_kids[j] := by simpa [eqb] using hc
            refine awp_skip ?_
            refine k_blk ?_
            refine k_seq ?_
            refine awp_region ?_
            refine r_move rfl (by conv => lhs; whnf) rfl ?_
            refine r_bin rfl (by conv => lhs; whnf) (by conv => lhs; whnf) (by simp only [hgl, hgr, Form.row_len, Form.take, List.length_map, abin, reduceIte, ne_eq, decide_not, Bool.not_true, Bool.not_false]; rfl) rfl ?_
            refine r_assign rfl (by conv => lhs; whnf) rfl ?_
            refine k_nil ?_
            refine k_rnd (j + 1) ⟨hlt, by rw [List.take_succ_eq_append_getElem hlt, List.take_succ_eq_append_getElem hlt2, htk, he]⟩ (by show kids.length - (j + 1) < kids.length - j; omega) (by repeat (first | exact off_frame _ _ _ | exact off_refl _ _ | refine off_upd rfl ?_ | refine off_sub rfl ?_)) (by repeat (first | exact off_frame _ _ _ | exact off_refl _ _ | refine off_upd rfl ?_ | refine off_sub rfl ?_)) (hasF_cons (by conv => lhs; whnf) (by rw [hw1]; push_cast; rfl) (by first | rfl | simp [V.ids, V.idsL, idsL_t, Ob.ids]) trivial) trivial
        · have hje : j = kids.length := by have := of_decide_eq_false hc; omega
          have he : eqb kids z_kids = true := (eqb_iff _ _).2 (by rw [hje, List.take_length, hlen, List.take_length] at htk; exact htk)
          refine awp_exit ?_
          refine k_seq_exit ?_
          refine k_rnd_exit ?_
          refine k_blk_exit ?_
          refine k_seq ?_
          refine awp_seq ?_
          refine awp_region ?_
          refine r_assign rfl (by conv => lhs; whnf) rfl ?_
          refine k_nil ?_
          refine k_seq ?_
          refine awp_ret ?_
          refine k_fin ?_
          refine ends_pure [] (by simp only [Try.results34, resOf, List.length_map, ev_tmp, ev_const, ev_func, upd_at, slots_cons, slots_nil, objs_cons, objs_nil, Nat.reduceLT, Nat.reduceEqDiff, Nat.reduceAdd, reduceIte, if_true, if_false, ofVal, ofS, noOb, reduceCtorEq]; rfl) (by rw [he]; exact ⟨give_id _, trivial⟩) (by simp [V.idsL, V.ids])
    · rw [hg1]
      refine r_fieldAddr rfl yF26_1e (by conv => lhs; whnf) (by conv => lhs; whnf) rfl ?_
      refine r_load1 rfl yA9e (by conv => lhs; whnf) (by conv => lhs; whnf) (by (try simp only [List.take_succ_cons, List.take_zero, List.drop_succ_cons, List.drop_zero, List.take_nil, List.drop_nil, List.nil_append, List.cons_append, List.append_nil, List.length_cons, List.length_nil, List.head?_cons, List.map_cons, List.map_nil, Nat.reduceAdd, Nat.zero_add, List.length_map]); rfl) rfl ?_
      refine r_fieldAddr rfl yF26_1e (by conv => lhs; whnf) (by conv => lhs; whnf) rfl ?_
      refine r_load1 rfl yA9e (by conv => lhs; whnf) (by conv => lhs; whnf) (by (try simp only [List.take_succ_cons, List.take_zero, List.drop_succ_cons, List.drop_zero, List.take_nil, List.drop_nil, List.nil_append, List.cons_append, List.append_nil, List.length_cons, List.length_nil, List.head?_cons, List.map_cons, List.map_nil, Nat.reduceAdd, Nat.zero_add, List.length_map]); rfl) rfl ?_
      refine r_bin rfl (by conv => lhs; whnf) (by conv => lhs; whnf) (by simp only [abin, reduceIte, ne_eq, decide_not, Bool.not_true, Bool.not_false]; rfl) rfl ?_
      refine r_pick rfl (by conv => lhs; whnf) (by conv => lhs; whnf) rfl ?_
      refine r_move rfl (by conv => lhs; whnf) rfl ?_
      refine g_split (d := 18) (by conv => lhs; whnf) (fun hg3 => ?_) (fun hg3 => ?_)
      · rw [hg3]
        refine r_no rfl ?_
        refine r_no rfl ?_
        refine r_no rfl ?_
        refine r_no rfl ?_
        refine r_no rfl ?_
        refine r_pick rfl (by conv => lhs; whnf) (by conv => lhs; whnf) rfl ?_
        refine r_move rfl (by conv => lhs; whnf) rfl ?_
        refine r_no rfl ?_
        refine r_no rfl ?_
        refine r_no rfl ?_
        refine r_no rfl ?_
        refine r_no rfl ?_
        refine r_no rfl ?_
        refine r_pick rfl (by conv => lhs; whnf) (by conv => lhs; whnf) rfl ?_
        refine r_move rfl (by conv => lhs; whnf) rfl ?_
        refine r_no rfl ?_
        refine r_no rfl ?_
        refine r_no rfl ?_
        refine r_no rfl ?_
        refine r_no rfl ?_
        refine r_no rfl ?_
        refine r_no rfl ?_
        refine r_pick rfl (by conv => lhs; whnf) (by conv => lhs; whnf) rfl ?_
        refine k_nil ?_
        refine k_seq ?_
        refine awp_cond rfl (fun hg4 => ?_) (fun hg4 => ?_)
        · refine awp_seq ?_
          refine awp_region ?_
          refine r_assign rfl (by conv => lhs; whnf) rfl ?_
          refine k_nil ?_
          refine k_seq ?_
          refine awp_ret ?_
          refine k_seq_ret ?_
          refine k_fin ?_
          refine ends_pure [] (by simp only [Try.results34, resOf, ev_tmp, ev_const, ev_func, upd_at, slots_cons, slots_nil, objs_cons, objs_nil, Nat.reduceLT, Nat.reduceEqDiff, Nat.reduceAdd, reduceIte, if_true, if_false, ofVal, ofS, noOb, reduceCtorEq]; rfl) (by
            refine ⟨.inl (congrArg (fun b => V.t (.sc (.bool b))) ?_), trivial⟩
            rw [Bool.eq_iff_iff]
            simp only [eqb_iff, Bool.false_eq_true, decide_eq_true_eq, Core.mk.injEq, Form.mk.injEq, Step.mk.injEq, Bind.mk.injEq, Hit.mk.injEq, Rule.mk.injEq, Macro.mk.injEq, Expansion.mk.injEq]
            simp_all [eqb_iff, eqb_not, -List.map_inj_left] <;> (try (intro e; subst e; simp_all))) (by simp [V.idsL, V.ids])
        · refine awp_skip ?_
          refine k_seq ?_
          refine awp_seq ?_
          refine awp_seq ?_
          refine awp_region ?_
          refine r_assign rfl (by conv => lhs; whnf) rfl ?_
          refine k_nil ?_
          refine k_seq ?_
          refine awp_block ?_
          have hAll : kind = z_kind ∧ name = z_name ∧ n = z_n ∧ scopes = z_scopes ∧ kids.length = z_kids.length := by simp_all [eqb_iff, eqb_not] <;> omega
          obtain ⟨rfl, rfl, rfl, rfl, hlen⟩ := hAll
          skip
          have hred : eqb (Form.mk kind name n scopes kids) (Form.mk kind name n scopes z_kids) = eqb kids z_kids := by rw [Bool.eq_iff_iff]; simp [eqb_iff]
          rw [hred]
          refine awp_frame [4, 5, 42, 43, 44, 45, 46, 47, 48, 49, 50, 51, 52, 53, 54, 55, 56, 57, 58, 59, 60] [] [] (fun j : Nat => kids.length - j) (fun j : Nat => [(5, vi j)]) (fun j : Nat => []) (fun j => j ≤ kids.length ∧ kids.take j = z_kids.take j) 0 ⟨Nat.zero_le _, by simp⟩ (by rfl) (by rfl) (fun _ => rfl) (hasF_cons (by conv => lhs; whnf) (by first | rfl | simp) (by first | rfl | simp [V.ids, V.idsL, idsL_t, Ob.ids]) trivial) trivial ?_
          rintro j ⟨hj, htk⟩
          refine awp_seq ?_
          refine awp_seq ?_
          refine awp_region ?_
          refine r_move rfl (by conv => lhs; whnf) rfl ?_
          refine r_fieldAddr rfl yF26_4e (by conv => lhs; whnf) (by conv => lhs; whnf) rfl ?_
          refine r_load1 rfl yA24e (by conv => lhs; whnf) (by conv => lhs; whnf) (by (try simp only [List.length_map, List.take_succ_cons, List.take_zero, List.drop_succ_cons, List.drop_zero, List.take_nil, List.drop_nil, List.nil_append, List.cons_append, List.append_nil, List.length_cons, List.length_nil, List.head?_cons, List.map_cons, List.map_nil, Nat.reduceAdd, Nat.zero_add, List.length_map]); rfl) rfl ?_
          refine r_len rfl yU24e (by conv => lhs; whnf) (by conv => lhs; whnf) rfl ?_
          refine r_bin rfl (by conv => lhs; whnf) (by conv => lhs; whnf) (by simp only [List.length_map, abin, reduceIte, ne_eq, decide_not, Bool.not_true, Bool.not_false]; rfl) rfl ?_
          refine k_nil ?_
          refine k_seq ?_
          refine awp_cond rfl (fun hc => ?_) (fun hc => ?_)
          · have hlt : j < kids.length := by have := of_decide_eq_true hc; omega
            have hlt2 : j < z_kids.length := by omega
            have hgl := map_get Form.row kids j hlt
            have hgr := map_get Form.row z_kids j hlt2
            have hw1 := IntWalk.i64_in ((j : Int) + 1) (by omega)
            clear hc
            have hle := T.wtR_le Form.row kids (j + 1)
            have hsucc := T.wtR_succ Form.row kids j hlt
            have hle2 := T.wtR_le Form.row z_kids (j + 1)
            have hsucc2 := T.wtR_succ Form.row z_kids j hlt2
            have hmem : kids[j] ∈ kids := List.getElem_mem hlt
            have hkid := specFormSame_ok kids[j] z_kids[j] (by omega) (by omega)
            refine awp_skip ?_
            refine k_seq ?_
            refine awp_seq ?_
            refine awp_block ?_
            refine awp_seq ?_
            refine awp_draw yMixe (by kernel_rfl) ?_
            refine r_fieldAddr rfl yF26_4e (by conv => lhs; whnf) (by conv => lhs; whnf) (by simp only [fpOf, idOf, Option.getD_some, Option.getD_none, Op.operands, Call.operands, V.idsL, V.ids, idsL_t, List.append_nil, List.nil_append, List.cons_append, List.toList_toArray, List.map_toArray, List.size_toArray, List.append_toArray, ev_tmp, ev_const, ev_func, upd_at, slots_cons, slots_nil, objs_cons, objs_nil, Nat.reduceLT, Nat.reduceEqDiff, Nat.reduceAdd, reduceIte, if_true, if_false, ofVal, ofS, noOb, reduceCtorEq, List.take_succ_cons, List.take_zero, List.drop_succ_cons, List.drop_zero, List.take_nil, List.drop_nil, List.nil_append, List.cons_append, List.append_nil, List.length_cons, List.length_nil, List.head?_cons, List.map_cons, List.map_nil, Nat.reduceAdd, Nat.zero_add, List.length_map, hgl, hgr, Form.row_len, Form.take, List.length_map]; rfl) ?_
            refine r_load1 rfl yA24e (by conv => lhs; whnf) (by conv => lhs; whnf) (by (try simp only [hgl, hgr, Form.row_len, Form.take, List.length_map, List.take_succ_cons, List.take_zero, List.drop_succ_cons, List.drop_zero, List.take_nil, List.drop_nil, List.nil_append, List.cons_append, List.append_nil, List.length_cons, List.length_nil, List.head?_cons, List.map_cons, List.map_nil, Nat.reduceAdd, Nat.zero_add, List.length_map]); rfl) (by simp only [fpOf, idOf, Option.getD_some, Option.getD_none, Op.operands, Call.operands, V.idsL, V.ids, idsL_t, List.append_nil, List.nil_append, List.cons_append, List.toList_toArray, List.map_toArray, List.size_toArray, List.append_toArray, ev_tmp, ev_const, ev_func, upd_at, slots_cons, slots_nil, objs_cons, objs_nil, Nat.reduceLT, Nat.reduceEqDiff, Nat.reduceAdd, reduceIte, if_true, if_false, ofVal, ofS, noOb, reduceCtorEq, List.take_succ_cons, List.take_zero, List.drop_succ_cons, List.drop_zero, List.take_nil, List.drop_nil, List.nil_append, List.cons_append, List.append_nil, List.length_cons, List.length_nil, List.head?_cons, List.map_cons, List.map_nil, Nat.reduceAdd, Nat.zero_add, List.length_map, hgl, hgr, Form.row_len, Form.take, List.length_map]; rfl) ?_
            refine r_move rfl (by conv => lhs; whnf) (by simp only [fpOf, idOf, Option.getD_some, Option.getD_none, Op.operands, Call.operands, V.idsL, V.ids, idsL_t, List.append_nil, List.nil_append, List.cons_append, List.toList_toArray, List.map_toArray, List.size_toArray, List.append_toArray, ev_tmp, ev_const, ev_func, upd_at, slots_cons, slots_nil, objs_cons, objs_nil, Nat.reduceLT, Nat.reduceEqDiff, Nat.reduceAdd, reduceIte, if_true, if_false, ofVal, ofS, noOb, reduceCtorEq, List.take_succ_cons, List.take_zero, List.drop_succ_cons, List.drop_zero, List.take_nil, List.drop_nil, List.nil_append, List.cons_append, List.append_nil, List.length_cons, List.length_nil, List.head?_cons, List.map_cons, List.map_nil, Nat.reduceAdd, Nat.zero_add, List.length_map, hgl, hgr, Form.row_len, Form.take, List.length_map]; rfl) ?_
            refine r_indexAddr rfl yE24e (by conv => lhs; whnf) (by conv => lhs; whnf) (by omega) (by simp only [hgl, hgr, Form.row_len, Form.take, List.length_map, indexP, ev_tmp, ev_const, ev_func, upd_at, slots_cons, slots_nil, objs_cons, objs_nil, Nat.reduceLT, Nat.reduceEqDiff, Nat.reduceAdd, reduceIte, if_true, if_false, ofVal, ofS, noOb, reduceCtorEq]; rfl) (by simp only [fpOf, idOf, Option.getD_some, Option.getD_none, Op.operands, Call.operands, V.idsL, V.ids, idsL_t, List.append_nil, List.nil_append, List.cons_append, List.toList_toArray, List.map_toArray, List.size_toArray, List.append_toArray, ev_tmp, ev_const, ev_func, upd_at, slots_cons, slots_nil, objs_cons, objs_nil, Nat.reduceLT, Nat.reduceEqDiff, Nat.reduceAdd, reduceIte, if_true, if_false, ofVal, ofS, noOb, reduceCtorEq, List.take_succ_cons, List.take_zero, List.drop_succ_cons, List.drop_zero, List.take_nil, List.drop_nil, List.nil_append, List.cons_append, List.append_nil, List.length_cons, List.length_nil, List.head?_cons, List.map_cons, List.map_nil, Nat.reduceAdd, Nat.zero_add, List.length_map, hgl, hgr, Form.row_len, Form.take, List.length_map]; rfl) ?_
            refine r_loadN rfl yA26e yS26e (by conv => lhs; whnf) (by conv => lhs; whnf) (by simp only [hgl, hgr, Form.row_len, Form.take, List.length_map, List.take_succ_cons, List.take_zero, List.drop_succ_cons, List.drop_zero, List.take_nil, List.drop_nil, List.nil_append, List.cons_append, List.append_nil, List.length_cons, List.length_nil, List.head?_cons, List.map_cons, List.map_nil, Nat.reduceAdd, Nat.zero_add, List.length_map]; omega) (by (try simp only [hgl, hgr, Form.row_len, Form.take, List.length_map, List.take_succ_cons, List.take_zero, List.drop_succ_cons, List.drop_zero, List.take_nil, List.drop_nil, List.nil_append, List.cons_append, List.append_nil, List.length_cons, List.length_nil, List.head?_cons, List.map_cons, List.map_nil, Nat.reduceAdd, Nat.zero_add, List.length_map]); rfl) (by simp only [fpOf, idOf, Option.getD_some, Option.getD_none, Op.operands, Call.operands, V.idsL, V.ids, idsL_t, List.append_nil, List.nil_append, List.cons_append, List.toList_toArray, List.map_toArray, List.size_toArray, List.append_toArray, ev_tmp, ev_const, ev_func, upd_at, slots_cons, slots_nil, objs_cons, objs_nil, Nat.reduceLT, Nat.reduceEqDiff, Nat.reduceAdd, reduceIte, if_true, if_false, ofVal, ofS, noOb, reduceCtorEq, List.take_succ_cons, List.take_zero, List.drop_succ_cons, List.drop_zero, List.take_nil, List.drop_nil, List.nil_append, List.cons_append, List.append_nil, List.length_cons, List.length_nil, List.head?_cons, List.map_cons, List.map_nil, Nat.reduceAdd, Nat.zero_add, List.length_map, hgl, hgr, Form.row_len, Form.take, List.length_map]; rfl) ?_
            refine r_fieldAddr rfl yF26_4e (by conv => lhs; whnf) (by conv => lhs; whnf) (by simp only [fpOf, idOf, Option.getD_some, Option.getD_none, Op.operands, Call.operands, V.idsL, V.ids, idsL_t, List.append_nil, List.nil_append, List.cons_append, List.toList_toArray, List.map_toArray, List.size_toArray, List.append_toArray, ev_tmp, ev_const, ev_func, upd_at, slots_cons, slots_nil, objs_cons, objs_nil, Nat.reduceLT, Nat.reduceEqDiff, Nat.reduceAdd, reduceIte, if_true, if_false, ofVal, ofS, noOb, reduceCtorEq, List.take_succ_cons, List.take_zero, List.drop_succ_cons, List.drop_zero, List.take_nil, List.drop_nil, List.nil_append, List.cons_append, List.append_nil, List.length_cons, List.length_nil, List.head?_cons, List.map_cons, List.map_nil, Nat.reduceAdd, Nat.zero_add, List.length_map, hgl, hgr, Form.row_len, Form.take, List.length_map]; rfl) ?_
            refine r_load1 rfl yA24e (by conv => lhs; whnf) (by conv => lhs; whnf) (by (try simp only [hgl, hgr, Form.row_len, Form.take, List.length_map, List.take_succ_cons, List.take_zero, List.drop_succ_cons, List.drop_zero, List.take_nil, List.drop_nil, List.nil_append, List.cons_append, List.append_nil, List.length_cons, List.length_nil, List.head?_cons, List.map_cons, List.map_nil, Nat.reduceAdd, Nat.zero_add, List.length_map]); rfl) (by simp only [fpOf, idOf, Option.getD_some, Option.getD_none, Op.operands, Call.operands, V.idsL, V.ids, idsL_t, List.append_nil, List.nil_append, List.cons_append, List.toList_toArray, List.map_toArray, List.size_toArray, List.append_toArray, ev_tmp, ev_const, ev_func, upd_at, slots_cons, slots_nil, objs_cons, objs_nil, Nat.reduceLT, Nat.reduceEqDiff, Nat.reduceAdd, reduceIte, if_true, if_false, ofVal, ofS, noOb, reduceCtorEq, List.take_succ_cons, List.take_zero, List.drop_succ_cons, List.drop_zero, List.take_nil, List.drop_nil, List.nil_append, List.cons_append, List.append_nil, List.length_cons, List.length_nil, List.head?_cons, List.map_cons, List.map_nil, Nat.reduceAdd, Nat.zero_add, List.length_map, hgl, hgr, Form.row_len, Form.take, List.length_map]; rfl) ?_
            refine r_move rfl (by conv => lhs; whnf) (by simp only [fpOf, idOf, Option.getD_some, Option.getD_none, Op.operands, Call.operands, V.idsL, V.ids, idsL_t, List.append_nil, List.nil_append, List.cons_append, List.toList_toArray, List.map_toArray, List.size_toArray, List.append_toArray, ev_tmp, ev_const, ev_func, upd_at, slots_cons, slots_nil, objs_cons, objs_nil, Nat.reduceLT, Nat.reduceEqDiff, Nat.reduceAdd, reduceIte, if_true, if_false, ofVal, ofS, noOb, reduceCtorEq, List.take_succ_cons, List.take_zero, List.drop_succ_cons, List.drop_zero, List.take_nil, List.drop_nil, List.nil_append, List.cons_append, List.append_nil, List.length_cons, List.length_nil, List.head?_cons, List.map_cons, List.map_nil, Nat.reduceAdd, Nat.zero_add, List.length_map, hgl, hgr, Form.row_len, Form.take, List.length_map]; rfl) ?_
            refine r_indexAddr rfl yE24e (by conv => lhs; whnf) (by conv => lhs; whnf) (by omega) (by simp only [hgl, hgr, Form.row_len, Form.take, List.length_map, indexP, ev_tmp, ev_const, ev_func, upd_at, slots_cons, slots_nil, objs_cons, objs_nil, Nat.reduceLT, Nat.reduceEqDiff, Nat.reduceAdd, reduceIte, if_true, if_false, ofVal, ofS, noOb, reduceCtorEq]; rfl) (by simp only [fpOf, idOf, Option.getD_some, Option.getD_none, Op.operands, Call.operands, V.idsL, V.ids, idsL_t, List.append_nil, List.nil_append, List.cons_append, List.toList_toArray, List.map_toArray, List.size_toArray, List.append_toArray, ev_tmp, ev_const, ev_func, upd_at, slots_cons, slots_nil, objs_cons, objs_nil, Nat.reduceLT, Nat.reduceEqDiff, Nat.reduceAdd, reduceIte, if_true, if_false, ofVal, ofS, noOb, reduceCtorEq, List.take_succ_cons, List.take_zero, List.drop_succ_cons, List.drop_zero, List.take_nil, List.drop_nil, List.nil_append, List.cons_append, List.append_nil, List.length_cons, List.length_nil, List.head?_cons, List.map_cons, List.map_nil, Nat.reduceAdd, Nat.zero_add, List.length_map, hgl, hgr, Form.row_len, Form.take, List.length_map]; rfl) ?_
            refine r_loadN rfl yA26e yS26e (by conv => lhs; whnf) (by conv => lhs; whnf) (by simp only [hgl, hgr, Form.row_len, Form.take, List.length_map, List.take_succ_cons, List.take_zero, List.drop_succ_cons, List.drop_zero, List.take_nil, List.drop_nil, List.nil_append, List.cons_append, List.append_nil, List.length_cons, List.length_nil, List.head?_cons, List.map_cons, List.map_nil, Nat.reduceAdd, Nat.zero_add, List.length_map]; omega) (by (try simp only [hgl, hgr, Form.row_len, Form.take, List.length_map, List.take_succ_cons, List.take_zero, List.drop_succ_cons, List.drop_zero, List.take_nil, List.drop_nil, List.nil_append, List.cons_append, List.append_nil, List.length_cons, List.length_nil, List.head?_cons, List.map_cons, List.map_nil, Nat.reduceAdd, Nat.zero_add, List.length_map]); rfl) (by simp only [fpOf, idOf, Option.getD_some, Option.getD_none, Op.operands, Call.operands, V.idsL, V.ids, idsL_t, List.append_nil, List.nil_append, List.cons_append, List.toList_toArray, List.map_toArray, List.size_toArray, List.append_toArray, ev_tmp, ev_const, ev_func, upd_at, slots_cons, slots_nil, objs_cons, objs_nil, Nat.reduceLT, Nat.reduceEqDiff, Nat.reduceAdd, reduceIte, if_true, if_false, ofVal, ofS, noOb, reduceCtorEq, List.take_succ_cons, List.take_zero, List.drop_succ_cons, List.drop_zero, List.take_nil, List.drop_nil, List.nil_append, List.cons_append, List.append_nil, List.length_cons, List.length_nil, List.head?_cons, List.map_cons, List.map_nil, Nat.reduceAdd, Nat.zero_add, List.length_map, hgl, hgr, Form.row_len, Form.take, List.length_map]; rfl) ?_
            refine r_pure [] rfl rfl rfl (by conv => lhs; whnf) (by simp only [hgl, hgr, Form.row_len, Form.take, List.length_map, ev_tmp, ev_const, ev_func, upd_at, slots_cons, slots_nil, objs_cons, objs_nil, Nat.reduceLT, Nat.reduceEqDiff, Nat.reduceAdd, reduceIte, if_true, if_false, ofVal, ofS, noOb, reduceCtorEq, List.take_succ_cons, List.take_zero, List.drop_succ_cons, List.drop_zero, List.take_nil, List.drop_nil, List.nil_append, List.cons_append, List.append_nil, List.length_cons, List.length_nil, List.head?_cons, List.map_cons, List.map_nil, Nat.reduceAdd, Nat.zero_add, List.length_map, List.toList_toArray]; rfl) (by simp only [hgl, hgr, Form.row_len, Form.take, List.length_map, fzU, ev_tmp, ev_const, ev_func, upd_at, slots_cons, slots_nil, objs_cons, objs_nil, Nat.reduceLT, Nat.reduceEqDiff, Nat.reduceAdd, reduceIte, if_true, if_false, ofVal, ofS, noOb, reduceCtorEq]; rfl) (by simp only [app]; rfl) (hkid) (by exact ⟨(by first | exact pass_id rfl | exact pass_id (ids_row _) | exact .inr (.inl ⟨_, rfl, rfl, by simp [fz]⟩) | exact .inr (.inr ⟨_, _, rfl, rfl, rfl, by simp [fz]⟩)), (by first | exact pass_id rfl | exact pass_id (ids_row _) | exact .inr (.inl ⟨_, rfl, rfl, by simp [fz]⟩) | exact .inr (.inr ⟨_, _, rfl, rfl, rfl, by simp [fz]⟩)), trivial⟩) (by simp only [fpOf, Op.operands, Call.operands, V.idsL, V.ids, idsL_t, List.append_nil, List.nil_append, List.cons_append, List.map_toArray, List.append_toArray, hgl, hgr, Form.row_len, Form.take, List.length_map, ev_tmp, ev_const, ev_func, upd_at, slots_cons, slots_nil, objs_cons, objs_nil, Nat.reduceLT, Nat.reduceEqDiff, Nat.reduceAdd, reduceIte, if_true, if_false, ofVal, ofS, noOb, reduceCtorEq, List.take_succ_cons, List.take_zero, List.drop_succ_cons, List.drop_zero, List.take_nil, List.drop_nil, List.nil_append, List.cons_append, List.append_nil, List.length_cons, List.length_nil, List.head?_cons, List.map_cons, List.map_nil, Nat.reduceAdd, Nat.zero_add, List.length_map]; rfl) ?_
            refine r_un rfl (by conv => lhs; whnf) (by conv => lhs; whnf) (by simp only [fpOf, idOf, Option.getD_some, Option.getD_none, Op.operands, Call.operands, V.idsL, V.ids, idsL_t, List.append_nil, List.nil_append, List.cons_append, List.toList_toArray, List.map_toArray, List.size_toArray, List.append_toArray, ev_tmp, ev_const, ev_func, upd_at, slots_cons, slots_nil, objs_cons, objs_nil, Nat.reduceLT, Nat.reduceEqDiff, Nat.reduceAdd, reduceIte, if_true, if_false, ofVal, ofS, noOb, reduceCtorEq, List.take_succ_cons, List.take_zero, List.drop_succ_cons, List.drop_zero, List.take_nil, List.drop_nil, List.nil_append, List.cons_append, List.append_nil, List.length_cons, List.length_nil, List.head?_cons, List.map_cons, List.map_nil, Nat.reduceAdd, Nat.zero_add, List.length_map, hgl, hgr, Form.row_len, Form.take, List.length_map]; rfl) ?_
            refine k_nilD (by simp only [List.reverse_cons, List.reverse_nil, List.nil_append, List.cons_append]; kernel_rfl) ?_
            refine k_seq ?_
            refine awp_cond rfl (fun hc => ?_) (fun hc => ?_)
            · have hne : eqb kids z_kids = false := (eqb_not _ _).2 (fun e => by subst e; simp [eqb] at hc)
              refine awp_seq ?_
              refine awp_region ?_
              refine r_assign rfl (by conv => lhs; whnf) rfl ?_
              refine k_nil ?_
              refine k_seq ?_
              refine awp_ret ?_
              refine k_blk_ret ?_
              refine k_seq_ret ?_
              refine k_rnd_ret ?_
              refine k_blk_ret ?_
              refine k_seq_ret ?_
              refine k_fin ?_
              refine ends_pure [] (by simp only [Try.results34, resOf, hgl, hgr, Form.row_len, Form.take, List.length_map, ev_tmp, ev_const, ev_func, upd_at, slots_cons, slots_nil, objs_cons, objs_nil, Nat.reduceLT, Nat.reduceEqDiff, Nat.reduceAdd, reduceIte, if_true, if_false, ofVal, ofS, noOb, reduceCtorEq]; rfl) (by rw [hne]; exact ⟨give_id _, trivial⟩) (by simp [V.idsL, V.ids])
            · have he : kids[j] = z_kids[j] := by simpa [eqb] using hc
              refine awp_skip ?_
              refine k_blk ?_
              refine k_seq ?_
              refine awp_region ?_
              refine r_move rfl (by conv => lhs; whnf) rfl ?_
              refine r_bin rfl (by conv => lhs; whnf) (by conv => lhs; whnf) (by simp only [hgl, hgr, Form.row_len, Form.take, List.length_map, abin, reduceIte, ne_eq, decide_not, Bool.not_true, Bool.not_false]; rfl) rfl ?_
              refine r_assign rfl (by conv => lhs; whnf) rfl ?_
              refine k_nil ?_
              refine k_rnd (j + 1) ⟨hlt, by rw [List.take_succ_eq_append_getElem hlt, List.take_succ_eq_append_getElem hlt2, htk, he]⟩ (by show kids.length - (j + 1) < kids.length - j; omega) (by repeat (first | exact off_frame _ _ _ | exact off_refl _ _ | refine off_upd rfl ?_ | refine off_sub rfl ?_)) (by repeat (first | exact off_frame _ _ _ | exact off_refl _ _ | refine off_upd rfl ?_ | refine off_sub rfl ?_)) (hasF_cons (by conv => lhs; whnf) (by rw [hw1]; push_cast; rfl) (by first | rfl | simp [V.ids, V.idsL, idsL_t, Ob.ids]) trivial) trivial
          · have hje : j = kids.length := by have := of_decide_eq_false hc; omega
            have he : eqb kids z_kids = true := (eqb_iff _ _).2 (by rw [hje, List.take_length, hlen, List.take_length] at htk; exact htk)
            refine awp_exit ?_
            refine k_seq_exit ?_
            refine k_rnd_exit ?_
            refine k_blk_exit ?_
            refine k_seq ?_
            refine awp_seq ?_
            refine awp_region ?_
            refine r_assign rfl (by conv => lhs; whnf) rfl ?_
            refine k_nil ?_
            refine k_seq ?_
            refine awp_ret ?_
            refine k_fin ?_
            refine ends_pure [] (by simp only [Try.results34, resOf, List.length_map, ev_tmp, ev_const, ev_func, upd_at, slots_cons, slots_nil, objs_cons, objs_nil, Nat.reduceLT, Nat.reduceEqDiff, Nat.reduceAdd, reduceIte, if_true, if_false, ofVal, ofS, noOb, reduceCtorEq]; rfl) (by rw [he]; exact ⟨give_id _, trivial⟩) (by simp [V.idsL, V.ids])
      · rw [hg3]
        refine r_fieldAddr rfl yF26_2e (by conv => lhs; whnf) (by conv => lhs; whnf) rfl ?_
        refine r_load1 rfl yA3e (by conv => lhs; whnf) (by conv => lhs; whnf) (by (try simp only [List.take_succ_cons, List.take_zero, List.drop_succ_cons, List.drop_zero, List.take_nil, List.drop_nil, List.nil_append, List.cons_append, List.append_nil, List.length_cons, List.length_nil, List.head?_cons, List.map_cons, List.map_nil, Nat.reduceAdd, Nat.zero_add, List.length_map]); rfl) rfl ?_
        refine r_fieldAddr rfl yF26_2e (by conv => lhs; whnf) (by conv => lhs; whnf) rfl ?_
        refine r_load1 rfl yA3e (by conv => lhs; whnf) (by conv => lhs; whnf) (by (try simp only [List.take_succ_cons, List.take_zero, List.drop_succ_cons, List.drop_zero, List.take_nil, List.drop_nil, List.nil_append, List.cons_append, List.append_nil, List.length_cons, List.length_nil, List.head?_cons, List.map_cons, List.map_nil, Nat.reduceAdd, Nat.zero_add, List.length_map]); rfl) rfl ?_
        refine r_bin rfl (by conv => lhs; whnf) (by conv => lhs; whnf) (by simp only [abin, reduceIte, ne_eq, decide_not, Bool.not_true, Bool.not_false]; rfl) rfl ?_
        refine r_pick rfl (by conv => lhs; whnf) (by conv => lhs; whnf) rfl ?_
        refine r_move rfl (by conv => lhs; whnf) rfl ?_
        refine g_split (d := 25) (by conv => lhs; whnf) (fun hg5 => ?_) (fun hg5 => ?_)
        · rw [hg5]
          refine r_no rfl ?_
          refine r_no rfl ?_
          refine r_no rfl ?_
          refine r_no rfl ?_
          refine r_no rfl ?_
          refine r_no rfl ?_
          refine r_pick rfl (by conv => lhs; whnf) (by conv => lhs; whnf) rfl ?_
          refine r_move rfl (by conv => lhs; whnf) rfl ?_
          refine r_no rfl ?_
          refine r_no rfl ?_
          refine r_no rfl ?_
          refine r_no rfl ?_
          refine r_no rfl ?_
          refine r_no rfl ?_
          refine r_no rfl ?_
          refine r_pick rfl (by conv => lhs; whnf) (by conv => lhs; whnf) rfl ?_
          refine k_nil ?_
          refine k_seq ?_
          refine awp_cond rfl (fun hg6 => ?_) (fun hg6 => ?_)
          · refine awp_seq ?_
            refine awp_region ?_
            refine r_assign rfl (by conv => lhs; whnf) rfl ?_
            refine k_nil ?_
            refine k_seq ?_
            refine awp_ret ?_
            refine k_seq_ret ?_
            refine k_fin ?_
            refine ends_pure [] (by simp only [Try.results34, resOf, ev_tmp, ev_const, ev_func, upd_at, slots_cons, slots_nil, objs_cons, objs_nil, Nat.reduceLT, Nat.reduceEqDiff, Nat.reduceAdd, reduceIte, if_true, if_false, ofVal, ofS, noOb, reduceCtorEq]; rfl) (by
              refine ⟨.inl (congrArg (fun b => V.t (.sc (.bool b))) ?_), trivial⟩
              rw [Bool.eq_iff_iff]
              simp only [eqb_iff, Bool.false_eq_true, decide_eq_true_eq, Core.mk.injEq, Form.mk.injEq, Step.mk.injEq, Bind.mk.injEq, Hit.mk.injEq, Rule.mk.injEq, Macro.mk.injEq, Expansion.mk.injEq]
              simp_all [eqb_iff, eqb_not, -List.map_inj_left] <;> (try (intro e; subst e; simp_all))) (by simp [V.idsL, V.ids])
          · refine awp_skip ?_
            refine k_seq ?_
            refine awp_seq ?_
            refine awp_seq ?_
            refine awp_region ?_
            refine r_assign rfl (by conv => lhs; whnf) rfl ?_
            refine k_nil ?_
            refine k_seq ?_
            refine awp_block ?_
            have hAll : kind = z_kind ∧ name = z_name ∧ n = z_n ∧ scopes = z_scopes ∧ kids.length = z_kids.length := by simp_all [eqb_iff, eqb_not] <;> omega
            obtain ⟨rfl, rfl, rfl, rfl, hlen⟩ := hAll
            skip
            have hred : eqb (Form.mk kind name n scopes kids) (Form.mk kind name n scopes z_kids) = eqb kids z_kids := by rw [Bool.eq_iff_iff]; simp [eqb_iff]
            rw [hred]
            refine awp_frame [4, 5, 42, 43, 44, 45, 46, 47, 48, 49, 50, 51, 52, 53, 54, 55, 56, 57, 58, 59, 60] [] [] (fun j : Nat => kids.length - j) (fun j : Nat => [(5, vi j)]) (fun j : Nat => []) (fun j => j ≤ kids.length ∧ kids.take j = z_kids.take j) 0 ⟨Nat.zero_le _, by simp⟩ (by rfl) (by rfl) (fun _ => rfl) (hasF_cons (by conv => lhs; whnf) (by first | rfl | simp) (by first | rfl | simp [V.ids, V.idsL, idsL_t, Ob.ids]) trivial) trivial ?_
            rintro j ⟨hj, htk⟩
            refine awp_seq ?_
            refine awp_seq ?_
            refine awp_region ?_
            refine r_move rfl (by conv => lhs; whnf) rfl ?_
            refine r_fieldAddr rfl yF26_4e (by conv => lhs; whnf) (by conv => lhs; whnf) rfl ?_
            refine r_load1 rfl yA24e (by conv => lhs; whnf) (by conv => lhs; whnf) (by (try simp only [List.length_map, List.take_succ_cons, List.take_zero, List.drop_succ_cons, List.drop_zero, List.take_nil, List.drop_nil, List.nil_append, List.cons_append, List.append_nil, List.length_cons, List.length_nil, List.head?_cons, List.map_cons, List.map_nil, Nat.reduceAdd, Nat.zero_add, List.length_map]); rfl) rfl ?_
            refine r_len rfl yU24e (by conv => lhs; whnf) (by conv => lhs; whnf) rfl ?_
            refine r_bin rfl (by conv => lhs; whnf) (by conv => lhs; whnf) (by simp only [List.length_map, abin, reduceIte, ne_eq, decide_not, Bool.not_true, Bool.not_false]; rfl) rfl ?_
            refine k_nil ?_
            refine k_seq ?_
            refine awp_cond rfl (fun hc => ?_) (fun hc => ?_)
            · have hlt : j < kids.length := by have := of_decide_eq_true hc; omega
              have hlt2 : j < z_kids.length := by omega
              have hgl := map_get Form.row kids j hlt
              have hgr := map_get Form.row z_kids j hlt2
              have hw1 := IntWalk.i64_in ((j : Int) + 1) (by omega)
              clear hc
              have hle := T.wtR_le Form.row kids (j + 1)
              have hsucc := T.wtR_succ Form.row kids j hlt
              have hle2 := T.wtR_le Form.row z_kids (j + 1)
              have hsucc2 := T.wtR_succ Form.row z_kids j hlt2
              have hmem : kids[j] ∈ kids := List.getElem_mem hlt
              have hkid := specFormSame_ok kids[j] z_kids[j] (by omega) (by omega)
              refine awp_skip ?_
              refine k_seq ?_
              refine awp_seq ?_
              refine awp_block ?_
              refine awp_seq ?_
              refine awp_draw yMixe (by kernel_rfl) ?_
              refine r_fieldAddr rfl yF26_4e (by conv => lhs; whnf) (by conv => lhs; whnf) (by simp only [fpOf, idOf, Option.getD_some, Option.getD_none, Op.operands, Call.operands, V.idsL, V.ids, idsL_t, List.append_nil, List.nil_append, List.cons_append, List.toList_toArray, List.map_toArray, List.size_toArray, List.append_toArray, ev_tmp, ev_const, ev_func, upd_at, slots_cons, slots_nil, objs_cons, objs_nil, Nat.reduceLT, Nat.reduceEqDiff, Nat.reduceAdd, reduceIte, if_true, if_false, ofVal, ofS, noOb, reduceCtorEq, List.take_succ_cons, List.take_zero, List.drop_succ_cons, List.drop_zero, List.take_nil, List.drop_nil, List.nil_append, List.cons_append, List.append_nil, List.length_cons, List.length_nil, List.head?_cons, List.map_cons, List.map_nil, Nat.reduceAdd, Nat.zero_add, List.length_map, hgl, hgr, Form.row_len, Form.take, List.length_map]; rfl) ?_
              refine r_load1 rfl yA24e (by conv => lhs; whnf) (by conv => lhs; whnf) (by (try simp only [hgl, hgr, Form.row_len, Form.take, List.length_map, List.take_succ_cons, List.take_zero, List.drop_succ_cons, List.drop_zero, List.take_nil, List.drop_nil, List.nil_append, List.cons_append, List.append_nil, List.length_cons, List.length_nil, List.head?_cons, List.map_cons, List.map_nil, Nat.reduceAdd, Nat.zero_add, List.length_map]); rfl) (by simp only [fpOf, idOf, Option.getD_some, Option.getD_none, Op.operands, Call.operands, V.idsL, V.ids, idsL_t, List.append_nil, List.nil_append, List.cons_append, List.toList_toArray, List.map_toArray, List.size_toArray, List.append_toArray, ev_tmp, ev_const, ev_func, upd_at, slots_cons, slots_nil, objs_cons, objs_nil, Nat.reduceLT, Nat.reduceEqDiff, Nat.reduceAdd, reduceIte, if_true, if_false, ofVal, ofS, noOb, reduceCtorEq, List.take_succ_cons, List.take_zero, List.drop_succ_cons, List.drop_zero, List.take_nil, List.drop_nil, List.nil_append, List.cons_append, List.append_nil, List.length_cons, List.length_nil, List.head?_cons, List.map_cons, List.map_nil, Nat.reduceAdd, Nat.zero_add, List.length_map, hgl, hgr, Form.row_len, Form.take, List.length_map]; rfl) ?_
              refine r_move rfl (by conv => lhs; whnf) (by simp only [fpOf, idOf, Option.getD_some, Option.getD_none, Op.operands, Call.operands, V.idsL, V.ids, idsL_t, List.append_nil, List.nil_append, List.cons_append, List.toList_toArray, List.map_toArray, List.size_toArray, List.append_toArray, ev_tmp, ev_const, ev_func, upd_at, slots_cons, slots_nil, objs_cons, objs_nil, Nat.reduceLT, Nat.reduceEqDiff, Nat.reduceAdd, reduceIte, if_true, if_false, ofVal, ofS, noOb, reduceCtorEq, List.take_succ_cons, List.take_zero, List.drop_succ_cons, List.drop_zero, List.take_nil, List.drop_nil, List.nil_append, List.cons_append, List.append_nil, List.length_cons, List.length_nil, List.head?_cons, List.map_cons, List.map_nil, Nat.reduceAdd, Nat.zero_add, List.length_map, hgl, hgr, Form.row_len, Form.take, List.length_map]; rfl) ?_
              refine r_indexAddr rfl yE24e (by conv => lhs; whnf) (by conv => lhs; whnf) (by omega) (by simp only [hgl, hgr, Form.row_len, Form.take, List.length_map, indexP, ev_tmp, ev_const, ev_func, upd_at, slots_cons, slots_nil, objs_cons, objs_nil, Nat.reduceLT, Nat.reduceEqDiff, Nat.reduceAdd, reduceIte, if_true, if_false, ofVal, ofS, noOb, reduceCtorEq]; rfl) (by simp only [fpOf, idOf, Option.getD_some, Option.getD_none, Op.operands, Call.operands, V.idsL, V.ids, idsL_t, List.append_nil, List.nil_append, List.cons_append, List.toList_toArray, List.map_toArray, List.size_toArray, List.append_toArray, ev_tmp, ev_const, ev_func, upd_at, slots_cons, slots_nil, objs_cons, objs_nil, Nat.reduceLT, Nat.reduceEqDiff, Nat.reduceAdd, reduceIte, if_true, if_false, ofVal, ofS, noOb, reduceCtorEq, List.take_succ_cons, List.take_zero, List.drop_succ_cons, List.drop_zero, List.take_nil, List.drop_nil, List.nil_append, List.cons_append, List.append_nil, List.length_cons, List.length_nil, List.head?_cons, List.map_cons, List.map_nil, Nat.reduceAdd, Nat.zero_add, List.length_map, hgl, hgr, Form.row_len, Form.take, List.length_map]; rfl) ?_
              refine r_loadN rfl yA26e yS26e (by conv => lhs; whnf) (by conv => lhs; whnf) (by simp only [hgl, hgr, Form.row_len, Form.take, List.length_map, List.take_succ_cons, List.take_zero, List.drop_succ_cons, List.drop_zero, List.take_nil, List.drop_nil, List.nil_append, List.cons_append, List.append_nil, List.length_cons, List.length_nil, List.head?_cons, List.map_cons, List.map_nil, Nat.reduceAdd, Nat.zero_add, List.length_map]; omega) (by (try simp only [hgl, hgr, Form.row_len, Form.take, List.length_map, List.take_succ_cons, List.take_zero, List.drop_succ_cons, List.drop_zero, List.take_nil, List.drop_nil, List.nil_append, List.cons_append, List.append_nil, List.length_cons, List.length_nil, List.head?_cons, List.map_cons, List.map_nil, Nat.reduceAdd, Nat.zero_add, List.length_map]); rfl) (by simp only [fpOf, idOf, Option.getD_some, Option.getD_none, Op.operands, Call.operands, V.idsL, V.ids, idsL_t, List.append_nil, List.nil_append, List.cons_append, List.toList_toArray, List.map_toArray, List.size_toArray, List.append_toArray, ev_tmp, ev_const, ev_func, upd_at, slots_cons, slots_nil, objs_cons, objs_nil, Nat.reduceLT, Nat.reduceEqDiff, Nat.reduceAdd, reduceIte, if_true, if_false, ofVal, ofS, noOb, reduceCtorEq, List.take_succ_cons, List.take_zero, List.drop_succ_cons, List.drop_zero, List.take_nil, List.drop_nil, List.nil_append, List.cons_append, List.append_nil, List.length_cons, List.length_nil, List.head?_cons, List.map_cons, List.map_nil, Nat.reduceAdd, Nat.zero_add, List.length_map, hgl, hgr, Form.row_len, Form.take, List.length_map]; rfl) ?_
              refine r_fieldAddr rfl yF26_4e (by conv => lhs; whnf) (by conv => lhs; whnf) (by simp only [fpOf, idOf, Option.getD_some, Option.getD_none, Op.operands, Call.operands, V.idsL, V.ids, idsL_t, List.append_nil, List.nil_append, List.cons_append, List.toList_toArray, List.map_toArray, List.size_toArray, List.append_toArray, ev_tmp, ev_const, ev_func, upd_at, slots_cons, slots_nil, objs_cons, objs_nil, Nat.reduceLT, Nat.reduceEqDiff, Nat.reduceAdd, reduceIte, if_true, if_false, ofVal, ofS, noOb, reduceCtorEq, List.take_succ_cons, List.take_zero, List.drop_succ_cons, List.drop_zero, List.take_nil, List.drop_nil, List.nil_append, List.cons_append, List.append_nil, List.length_cons, List.length_nil, List.head?_cons, List.map_cons, List.map_nil, Nat.reduceAdd, Nat.zero_add, List.length_map, hgl, hgr, Form.row_len, Form.take, List.length_map]; rfl) ?_
              refine r_load1 rfl yA24e (by conv => lhs; whnf) (by conv => lhs; whnf) (by (try simp only [hgl, hgr, Form.row_len, Form.take, List.length_map, List.take_succ_cons, List.take_zero, List.drop_succ_cons, List.drop_zero, List.take_nil, List.drop_nil, List.nil_append, List.cons_append, List.append_nil, List.length_cons, List.length_nil, List.head?_cons, List.map_cons, List.map_nil, Nat.reduceAdd, Nat.zero_add, List.length_map]); rfl) (by simp only [fpOf, idOf, Option.getD_some, Option.getD_none, Op.operands, Call.operands, V.idsL, V.ids, idsL_t, List.append_nil, List.nil_append, List.cons_append, List.toList_toArray, List.map_toArray, List.size_toArray, List.append_toArray, ev_tmp, ev_const, ev_func, upd_at, slots_cons, slots_nil, objs_cons, objs_nil, Nat.reduceLT, Nat.reduceEqDiff, Nat.reduceAdd, reduceIte, if_true, if_false, ofVal, ofS, noOb, reduceCtorEq, List.take_succ_cons, List.take_zero, List.drop_succ_cons, List.drop_zero, List.take_nil, List.drop_nil, List.nil_append, List.cons_append, List.append_nil, List.length_cons, List.length_nil, List.head?_cons, List.map_cons, List.map_nil, Nat.reduceAdd, Nat.zero_add, List.length_map, hgl, hgr, Form.row_len, Form.take, List.length_map]; rfl) ?_
              refine r_move rfl (by conv => lhs; whnf) (by simp only [fpOf, idOf, Option.getD_some, Option.getD_none, Op.operands, Call.operands, V.idsL, V.ids, idsL_t, List.append_nil, List.nil_append, List.cons_append, List.toList_toArray, List.map_toArray, List.size_toArray, List.append_toArray, ev_tmp, ev_const, ev_func, upd_at, slots_cons, slots_nil, objs_cons, objs_nil, Nat.reduceLT, Nat.reduceEqDiff, Nat.reduceAdd, reduceIte, if_true, if_false, ofVal, ofS, noOb, reduceCtorEq, List.take_succ_cons, List.take_zero, List.drop_succ_cons, List.drop_zero, List.take_nil, List.drop_nil, List.nil_append, List.cons_append, List.append_nil, List.length_cons, List.length_nil, List.head?_cons, List.map_cons, List.map_nil, Nat.reduceAdd, Nat.zero_add, List.length_map, hgl, hgr, Form.row_len, Form.take, List.length_map]; rfl) ?_
              refine r_indexAddr rfl yE24e (by conv => lhs; whnf) (by conv => lhs; whnf) (by omega) (by simp only [hgl, hgr, Form.row_len, Form.take, List.length_map, indexP, ev_tmp, ev_const, ev_func, upd_at, slots_cons, slots_nil, objs_cons, objs_nil, Nat.reduceLT, Nat.reduceEqDiff, Nat.reduceAdd, reduceIte, if_true, if_false, ofVal, ofS, noOb, reduceCtorEq]; rfl) (by simp only [fpOf, idOf, Option.getD_some, Option.getD_none, Op.operands, Call.operands, V.idsL, V.ids, idsL_t, List.append_nil, List.nil_append, List.cons_append, List.toList_toArray, List.map_toArray, List.size_toArray, List.append_toArray, ev_tmp, ev_const, ev_func, upd_at, slots_cons, slots_nil, objs_cons, objs_nil, Nat.reduceLT, Nat.reduceEqDiff, Nat.reduceAdd, reduceIte, if_true, if_false, ofVal, ofS, noOb, reduceCtorEq, List.take_succ_cons, List.take_zero, List.drop_succ_cons, List.drop_zero, List.take_nil, List.drop_nil, List.nil_append, List.cons_append, List.append_nil, List.length_cons, List.length_nil, List.head?_cons, List.map_cons, List.map_nil, Nat.reduceAdd, Nat.zero_add, List.length_map, hgl, hgr, Form.row_len, Form.take, List.length_map]; rfl) ?_
              refine r_loadN rfl yA26e yS26e (by conv => lhs; whnf) (by conv => lhs; whnf) (by simp only [hgl, hgr, Form.row_len, Form.take, List.length_map, List.take_succ_cons, List.take_zero, List.drop_succ_cons, List.drop_zero, List.take_nil, List.drop_nil, List.nil_append, List.cons_append, List.append_nil, List.length_cons, List.length_nil, List.head?_cons, List.map_cons, List.map_nil, Nat.reduceAdd, Nat.zero_add, List.length_map]; omega) (by (try simp only [hgl, hgr, Form.row_len, Form.take, List.length_map, List.take_succ_cons, List.take_zero, List.drop_succ_cons, List.drop_zero, List.take_nil, List.drop_nil, List.nil_append, List.cons_append, List.append_nil, List.length_cons, List.length_nil, List.head?_cons, List.map_cons, List.map_nil, Nat.reduceAdd, Nat.zero_add, List.length_map]); rfl) (by simp only [fpOf, idOf, Option.getD_some, Option.getD_none, Op.operands, Call.operands, V.idsL, V.ids, idsL_t, List.append_nil, List.nil_append, List.cons_append, List.toList_toArray, List.map_toArray, List.size_toArray, List.append_toArray, ev_tmp, ev_const, ev_func, upd_at, slots_cons, slots_nil, objs_cons, objs_nil, Nat.reduceLT, Nat.reduceEqDiff, Nat.reduceAdd, reduceIte, if_true, if_false, ofVal, ofS, noOb, reduceCtorEq, List.take_succ_cons, List.take_zero, List.drop_succ_cons, List.drop_zero, List.take_nil, List.drop_nil, List.nil_append, List.cons_append, List.append_nil, List.length_cons, List.length_nil, List.head?_cons, List.map_cons, List.map_nil, Nat.reduceAdd, Nat.zero_add, List.length_map, hgl, hgr, Form.row_len, Form.take, List.length_map]; rfl) ?_
              refine r_pure [] rfl rfl rfl (by conv => lhs; whnf) (by simp only [hgl, hgr, Form.row_len, Form.take, List.length_map, ev_tmp, ev_const, ev_func, upd_at, slots_cons, slots_nil, objs_cons, objs_nil, Nat.reduceLT, Nat.reduceEqDiff, Nat.reduceAdd, reduceIte, if_true, if_false, ofVal, ofS, noOb, reduceCtorEq, List.take_succ_cons, List.take_zero, List.drop_succ_cons, List.drop_zero, List.take_nil, List.drop_nil, List.nil_append, List.cons_append, List.append_nil, List.length_cons, List.length_nil, List.head?_cons, List.map_cons, List.map_nil, Nat.reduceAdd, Nat.zero_add, List.length_map, List.toList_toArray]; rfl) (by simp only [hgl, hgr, Form.row_len, Form.take, List.length_map, fzU, ev_tmp, ev_const, ev_func, upd_at, slots_cons, slots_nil, objs_cons, objs_nil, Nat.reduceLT, Nat.reduceEqDiff, Nat.reduceAdd, reduceIte, if_true, if_false, ofVal, ofS, noOb, reduceCtorEq]; rfl) (by simp only [app]; rfl) (hkid) (by exact ⟨(by first | exact pass_id rfl | exact pass_id (ids_row _) | exact .inr (.inl ⟨_, rfl, rfl, by simp [fz]⟩) | exact .inr (.inr ⟨_, _, rfl, rfl, rfl, by simp [fz]⟩)), (by first | exact pass_id rfl | exact pass_id (ids_row _) | exact .inr (.inl ⟨_, rfl, rfl, by simp [fz]⟩) | exact .inr (.inr ⟨_, _, rfl, rfl, rfl, by simp [fz]⟩)), trivial⟩) (by simp only [fpOf, Op.operands, Call.operands, V.idsL, V.ids, idsL_t, List.append_nil, List.nil_append, List.cons_append, List.map_toArray, List.append_toArray, hgl, hgr, Form.row_len, Form.take, List.length_map, ev_tmp, ev_const, ev_func, upd_at, slots_cons, slots_nil, objs_cons, objs_nil, Nat.reduceLT, Nat.reduceEqDiff, Nat.reduceAdd, reduceIte, if_true, if_false, ofVal, ofS, noOb, reduceCtorEq, List.take_succ_cons, List.take_zero, List.drop_succ_cons, List.drop_zero, List.take_nil, List.drop_nil, List.nil_append, List.cons_append, List.append_nil, List.length_cons, List.length_nil, List.head?_cons, List.map_cons, List.map_nil, Nat.reduceAdd, Nat.zero_add, List.length_map]; rfl) ?_
              refine r_un rfl (by conv => lhs; whnf) (by conv => lhs; whnf) (by simp only [fpOf, idOf, Option.getD_some, Option.getD_none, Op.operands, Call.operands, V.idsL, V.ids, idsL_t, List.append_nil, List.nil_append, List.cons_append, List.toList_toArray, List.map_toArray, List.size_toArray, List.append_toArray, ev_tmp, ev_const, ev_func, upd_at, slots_cons, slots_nil, objs_cons, objs_nil, Nat.reduceLT, Nat.reduceEqDiff, Nat.reduceAdd, reduceIte, if_true, if_false, ofVal, ofS, noOb, reduceCtorEq, List.take_succ_cons, List.take_zero, List.drop_succ_cons, List.drop_zero, List.take_nil, List.drop_nil, List.nil_append, List.cons_append, List.append_nil, List.length_cons, List.length_nil, List.head?_cons, List.map_cons, List.map_nil, Nat.reduceAdd, Nat.zero_add, List.length_map, hgl, hgr, Form.row_len, Form.take, List.length_map]; rfl) ?_
              refine k_nilD (by simp only [List.reverse_cons, List.reverse_nil, List.nil_append, List.cons_append]; kernel_rfl) ?_
              refine k_seq ?_
              refine awp_cond rfl (fun hc => ?_) (fun hc => ?_)
              · have hne : eqb kids z_kids = false := (eqb_not _ _).2 (fun e => by subst e; simp [eqb] at hc)
                refine awp_seq ?_
                refine awp_region ?_
                refine r_assign rfl (by conv => lhs; whnf) rfl ?_
                refine k_nil ?_
                refine k_seq ?_
                refine awp_ret ?_
                refine k_blk_ret ?_
                refine k_seq_ret ?_
                refine k_rnd_ret ?_
                refine k_blk_ret ?_
                refine k_seq_ret ?_
                refine k_fin ?_
                refine ends_pure [] (by simp only [Try.results34, resOf, hgl, hgr, Form.row_len, Form.take, List.length_map, ev_tmp, ev_const, ev_func, upd_at, slots_cons, slots_nil, objs_cons, objs_nil, Nat.reduceLT, Nat.reduceEqDiff, Nat.reduceAdd, reduceIte, if_true, if_false, ofVal, ofS, noOb, reduceCtorEq]; rfl) (by rw [hne]; exact ⟨give_id _, trivial⟩) (by simp [V.idsL, V.ids])
              · have he : kids[j] = z_kids[j] := by simpa [eqb] using hc
                refine awp_skip ?_
                refine k_blk ?_
                refine k_seq ?_
                refine awp_region ?_
                refine r_move rfl (by conv => lhs; whnf) rfl ?_
                refine r_bin rfl (by conv => lhs; whnf) (by conv => lhs; whnf) (by simp only [hgl, hgr, Form.row_len, Form.take, List.length_map, abin, reduceIte, ne_eq, decide_not, Bool.not_true, Bool.not_false]; rfl) rfl ?_
                refine r_assign rfl (by conv => lhs; whnf) rfl ?_
                refine k_nil ?_
                refine k_rnd (j + 1) ⟨hlt, by rw [List.take_succ_eq_append_getElem hlt, List.take_succ_eq_append_getElem hlt2, htk, he]⟩ (by show kids.length - (j + 1) < kids.length - j; omega) (by repeat (first | exact off_frame _ _ _ | exact off_refl _ _ | refine off_upd rfl ?_ | refine off_sub rfl ?_)) (by repeat (first | exact off_frame _ _ _ | exact off_refl _ _ | refine off_upd rfl ?_ | refine off_sub rfl ?_)) (hasF_cons (by conv => lhs; whnf) (by rw [hw1]; push_cast; rfl) (by first | rfl | simp [V.ids, V.idsL, idsL_t, Ob.ids]) trivial) trivial
            · have hje : j = kids.length := by have := of_decide_eq_false hc; omega
              have he : eqb kids z_kids = true := (eqb_iff _ _).2 (by rw [hje, List.take_length, hlen, List.take_length] at htk; exact htk)
              refine awp_exit ?_
              refine k_seq_exit ?_
              refine k_rnd_exit ?_
              refine k_blk_exit ?_
              refine k_seq ?_
              refine awp_seq ?_
              refine awp_region ?_
              refine r_assign rfl (by conv => lhs; whnf) rfl ?_
              refine k_nil ?_
              refine k_seq ?_
              refine awp_ret ?_
              refine k_fin ?_
              refine ends_pure [] (by simp only [Try.results34, resOf, List.length_map, ev_tmp, ev_const, ev_func, upd_at, slots_cons, slots_nil, objs_cons, objs_nil, Nat.reduceLT, Nat.reduceEqDiff, Nat.reduceAdd, reduceIte, if_true, if_false, ofVal, ofS, noOb, reduceCtorEq]; rfl) (by rw [he]; exact ⟨give_id _, trivial⟩) (by simp [V.idsL, V.ids])
        · rw [hg5]
          refine r_fieldAddr rfl yF26_3e (by conv => lhs; whnf) (by conv => lhs; whnf) rfl ?_
          refine r_load1 rfl yA23e (by conv => lhs; whnf) (by conv => lhs; whnf) (by (try simp only [List.take_succ_cons, List.take_zero, List.drop_succ_cons, List.drop_zero, List.take_nil, List.drop_nil, List.nil_append, List.cons_append, List.append_nil, List.length_cons, List.length_nil, List.head?_cons, List.map_cons, List.map_nil, Nat.reduceAdd, Nat.zero_add, List.length_map]); rfl) rfl ?_
          refine r_fieldAddr rfl yF26_3e (by conv => lhs; whnf) (by conv => lhs; whnf) rfl ?_
          refine r_load1 rfl yA23e (by conv => lhs; whnf) (by conv => lhs; whnf) (by (try simp only [List.take_succ_cons, List.take_zero, List.drop_succ_cons, List.drop_zero, List.take_nil, List.drop_nil, List.nil_append, List.cons_append, List.append_nil, List.length_cons, List.length_nil, List.head?_cons, List.map_cons, List.map_nil, Nat.reduceAdd, Nat.zero_add, List.length_map]); rfl) rfl ?_
          have hk7 := l1Ints_ok scopes z_scopes (by omega) (by omega)
          refine r_pure [] rfl rfl rfl (by conv => lhs; whnf) (by simp only [ev_tmp, ev_const, ev_func, upd_at, slots_cons, slots_nil, objs_cons, objs_nil, Nat.reduceLT, Nat.reduceEqDiff, Nat.reduceAdd, reduceIte, if_true, if_false, ofVal, ofS, noOb, reduceCtorEq, List.take_succ_cons, List.take_zero, List.drop_succ_cons, List.drop_zero, List.take_nil, List.drop_nil, List.nil_append, List.cons_append, List.append_nil, List.length_cons, List.length_nil, List.head?_cons, List.map_cons, List.map_nil, Nat.reduceAdd, Nat.zero_add, List.length_map, List.toList_toArray]; rfl) (by simp only [fzU, ev_tmp, ev_const, ev_func, upd_at, slots_cons, slots_nil, objs_cons, objs_nil, Nat.reduceLT, Nat.reduceEqDiff, Nat.reduceAdd, reduceIte, if_true, if_false, ofVal, ofS, noOb, reduceCtorEq]; rfl) (by simp only [app]; rfl) (hk7) (by exact ⟨(by first | exact pass_id rfl | exact pass_id (ids_row _) | exact .inr (.inl ⟨_, rfl, rfl, by simp [fz]⟩) | exact .inr (.inr ⟨_, _, rfl, rfl, rfl, by simp [fz]⟩)), (by first | exact pass_id rfl | exact pass_id (ids_row _) | exact .inr (.inl ⟨_, rfl, rfl, by simp [fz]⟩) | exact .inr (.inr ⟨_, _, rfl, rfl, rfl, by simp [fz]⟩)), trivial⟩) rfl ?_
          refine r_un rfl (by conv => lhs; whnf) (by conv => lhs; whnf) rfl ?_
          refine r_pick rfl (by conv => lhs; whnf) (by conv => lhs; whnf) rfl ?_
          refine r_move rfl (by conv => lhs; whnf) rfl ?_
          refine g_split (d := 33) (by conv => lhs; whnf) (fun hg8 => ?_) (fun hg8 => ?_)
          · rw [hg8]
            refine r_no rfl ?_
            refine r_no rfl ?_
            refine r_no rfl ?_
            refine r_no rfl ?_
            refine r_no rfl ?_
            refine r_no rfl ?_
            refine r_no rfl ?_
            refine r_pick rfl (by conv => lhs; whnf) (by conv => lhs; whnf) rfl ?_
            refine k_nil ?_
            refine k_seq ?_
            refine awp_cond rfl (fun hg9 => ?_) (fun hg9 => ?_)
            · refine awp_seq ?_
              refine awp_region ?_
              refine r_assign rfl (by conv => lhs; whnf) rfl ?_
              refine k_nil ?_
              refine k_seq ?_
              refine awp_ret ?_
              refine k_seq_ret ?_
              refine k_fin ?_
              refine ends_pure [] (by simp only [Try.results34, resOf, ev_tmp, ev_const, ev_func, upd_at, slots_cons, slots_nil, objs_cons, objs_nil, Nat.reduceLT, Nat.reduceEqDiff, Nat.reduceAdd, reduceIte, if_true, if_false, ofVal, ofS, noOb, reduceCtorEq]; rfl) (by
                refine ⟨.inl (congrArg (fun b => V.t (.sc (.bool b))) ?_), trivial⟩
                rw [Bool.eq_iff_iff]
                simp only [eqb_iff, Bool.false_eq_true, decide_eq_true_eq, Core.mk.injEq, Form.mk.injEq, Step.mk.injEq, Bind.mk.injEq, Hit.mk.injEq, Rule.mk.injEq, Macro.mk.injEq, Expansion.mk.injEq]
                simp_all [eqb_iff, eqb_not, -List.map_inj_left] <;> (try (intro e; subst e; simp_all))) (by simp [V.idsL, V.ids])
            · refine awp_skip ?_
              refine k_seq ?_
              refine awp_seq ?_
              refine awp_seq ?_
              refine awp_region ?_
              refine r_assign rfl (by conv => lhs; whnf) rfl ?_
              refine k_nil ?_
              refine k_seq ?_
              refine awp_block ?_
              have hAll : kind = z_kind ∧ name = z_name ∧ n = z_n ∧ scopes = z_scopes ∧ kids.length = z_kids.length := by simp_all [eqb_iff, eqb_not] <;> omega
              obtain ⟨rfl, rfl, rfl, rfl, hlen⟩ := hAll
              skip
              have hred : eqb (Form.mk kind name n scopes kids) (Form.mk kind name n scopes z_kids) = eqb kids z_kids := by rw [Bool.eq_iff_iff]; simp [eqb_iff]
              rw [hred]
              refine awp_frame [4, 5, 42, 43, 44, 45, 46, 47, 48, 49, 50, 51, 52, 53, 54, 55, 56, 57, 58, 59, 60] [] [] (fun j : Nat => kids.length - j) (fun j : Nat => [(5, vi j)]) (fun j : Nat => []) (fun j => j ≤ kids.length ∧ kids.take j = z_kids.take j) 0 ⟨Nat.zero_le _, by simp⟩ (by rfl) (by rfl) (fun _ => rfl) (hasF_cons (by conv => lhs; whnf) (by first | rfl | simp) (by first | rfl | simp [V.ids, V.idsL, idsL_t, Ob.ids]) trivial) trivial ?_
              rintro j ⟨hj, htk⟩
              refine awp_seq ?_
              refine awp_seq ?_
              refine awp_region ?_
              refine r_move rfl (by conv => lhs; whnf) rfl ?_
              refine r_fieldAddr rfl yF26_4e (by conv => lhs; whnf) (by conv => lhs; whnf) rfl ?_
              refine r_load1 rfl yA24e (by conv => lhs; whnf) (by conv => lhs; whnf) (by (try simp only [List.length_map, List.take_succ_cons, List.take_zero, List.drop_succ_cons, List.drop_zero, List.take_nil, List.drop_nil, List.nil_append, List.cons_append, List.append_nil, List.length_cons, List.length_nil, List.head?_cons, List.map_cons, List.map_nil, Nat.reduceAdd, Nat.zero_add, List.length_map]); rfl) rfl ?_
              refine r_len rfl yU24e (by conv => lhs; whnf) (by conv => lhs; whnf) rfl ?_
              refine r_bin rfl (by conv => lhs; whnf) (by conv => lhs; whnf) (by simp only [List.length_map, abin, reduceIte, ne_eq, decide_not, Bool.not_true, Bool.not_false]; rfl) rfl ?_
              refine k_nil ?_
              refine k_seq ?_
              refine awp_cond rfl (fun hc => ?_) (fun hc => ?_)
              · have hlt : j < kids.length := by have := of_decide_eq_true hc; omega
                have hlt2 : j < z_kids.length := by omega
                have hgl := map_get Form.row kids j hlt
                have hgr := map_get Form.row z_kids j hlt2
                have hw1 := IntWalk.i64_in ((j : Int) + 1) (by omega)
                clear hc
                have hle := T.wtR_le Form.row kids (j + 1)
                have hsucc := T.wtR_succ Form.row kids j hlt
                have hle2 := T.wtR_le Form.row z_kids (j + 1)
                have hsucc2 := T.wtR_succ Form.row z_kids j hlt2
                have hmem : kids[j] ∈ kids := List.getElem_mem hlt
                have hkid := specFormSame_ok kids[j] z_kids[j] (by omega) (by omega)
                refine awp_skip ?_
                refine k_seq ?_
                refine awp_seq ?_
                refine awp_block ?_
                refine awp_seq ?_
                refine awp_draw yMixe (by kernel_rfl) ?_
                refine r_fieldAddr rfl yF26_4e (by conv => lhs; whnf) (by conv => lhs; whnf) (by simp only [fpOf, idOf, Option.getD_some, Option.getD_none, Op.operands, Call.operands, V.idsL, V.ids, idsL_t, List.append_nil, List.nil_append, List.cons_append, List.toList_toArray, List.map_toArray, List.size_toArray, List.append_toArray, ev_tmp, ev_const, ev_func, upd_at, slots_cons, slots_nil, objs_cons, objs_nil, Nat.reduceLT, Nat.reduceEqDiff, Nat.reduceAdd, reduceIte, if_true, if_false, ofVal, ofS, noOb, reduceCtorEq, List.take_succ_cons, List.take_zero, List.drop_succ_cons, List.drop_zero, List.take_nil, List.drop_nil, List.nil_append, List.cons_append, List.append_nil, List.length_cons, List.length_nil, List.head?_cons, List.map_cons, List.map_nil, Nat.reduceAdd, Nat.zero_add, List.length_map, hgl, hgr, Form.row_len, Form.take, List.length_map]; rfl) ?_
                refine r_load1 rfl yA24e (by conv => lhs; whnf) (by conv => lhs; whnf) (by (try simp only [hgl, hgr, Form.row_len, Form.take, List.length_map, List.take_succ_cons, List.take_zero, List.drop_succ_cons, List.drop_zero, List.take_nil, List.drop_nil, List.nil_append, List.cons_append, List.append_nil, List.length_cons, List.length_nil, List.head?_cons, List.map_cons, List.map_nil, Nat.reduceAdd, Nat.zero_add, List.length_map]); rfl) (by simp only [fpOf, idOf, Option.getD_some, Option.getD_none, Op.operands, Call.operands, V.idsL, V.ids, idsL_t, List.append_nil, List.nil_append, List.cons_append, List.toList_toArray, List.map_toArray, List.size_toArray, List.append_toArray, ev_tmp, ev_const, ev_func, upd_at, slots_cons, slots_nil, objs_cons, objs_nil, Nat.reduceLT, Nat.reduceEqDiff, Nat.reduceAdd, reduceIte, if_true, if_false, ofVal, ofS, noOb, reduceCtorEq, List.take_succ_cons, List.take_zero, List.drop_succ_cons, List.drop_zero, List.take_nil, List.drop_nil, List.nil_append, List.cons_append, List.append_nil, List.length_cons, List.length_nil, List.head?_cons, List.map_cons, List.map_nil, Nat.reduceAdd, Nat.zero_add, List.length_map, hgl, hgr, Form.row_len, Form.take, List.length_map]; rfl) ?_
                refine r_move rfl (by conv => lhs; whnf) (by simp only [fpOf, idOf, Option.getD_some, Option.getD_none, Op.operands, Call.operands, V.idsL, V.ids, idsL_t, List.append_nil, List.nil_append, List.cons_append, List.toList_toArray, List.map_toArray, List.size_toArray, List.append_toArray, ev_tmp, ev_const, ev_func, upd_at, slots_cons, slots_nil, objs_cons, objs_nil, Nat.reduceLT, Nat.reduceEqDiff, Nat.reduceAdd, reduceIte, if_true, if_false, ofVal, ofS, noOb, reduceCtorEq, List.take_succ_cons, List.take_zero, List.drop_succ_cons, List.drop_zero, List.take_nil, List.drop_nil, List.nil_append, List.cons_append, List.append_nil, List.length_cons, List.length_nil, List.head?_cons, List.map_cons, List.map_nil, Nat.reduceAdd, Nat.zero_add, List.length_map, hgl, hgr, Form.row_len, Form.take, List.length_map]; rfl) ?_
                refine r_indexAddr rfl yE24e (by conv => lhs; whnf) (by conv => lhs; whnf) (by omega) (by simp only [hgl, hgr, Form.row_len, Form.take, List.length_map, indexP, ev_tmp, ev_const, ev_func, upd_at, slots_cons, slots_nil, objs_cons, objs_nil, Nat.reduceLT, Nat.reduceEqDiff, Nat.reduceAdd, reduceIte, if_true, if_false, ofVal, ofS, noOb, reduceCtorEq]; rfl) (by simp only [fpOf, idOf, Option.getD_some, Option.getD_none, Op.operands, Call.operands, V.idsL, V.ids, idsL_t, List.append_nil, List.nil_append, List.cons_append, List.toList_toArray, List.map_toArray, List.size_toArray, List.append_toArray, ev_tmp, ev_const, ev_func, upd_at, slots_cons, slots_nil, objs_cons, objs_nil, Nat.reduceLT, Nat.reduceEqDiff, Nat.reduceAdd, reduceIte, if_true, if_false, ofVal, ofS, noOb, reduceCtorEq, List.take_succ_cons, List.take_zero, List.drop_succ_cons, List.drop_zero, List.take_nil, List.drop_nil, List.nil_append, List.cons_append, List.append_nil, List.length_cons, List.length_nil, List.head?_cons, List.map_cons, List.map_nil, Nat.reduceAdd, Nat.zero_add, List.length_map, hgl, hgr, Form.row_len, Form.take, List.length_map]; rfl) ?_
                refine r_loadN rfl yA26e yS26e (by conv => lhs; whnf) (by conv => lhs; whnf) (by simp only [hgl, hgr, Form.row_len, Form.take, List.length_map, List.take_succ_cons, List.take_zero, List.drop_succ_cons, List.drop_zero, List.take_nil, List.drop_nil, List.nil_append, List.cons_append, List.append_nil, List.length_cons, List.length_nil, List.head?_cons, List.map_cons, List.map_nil, Nat.reduceAdd, Nat.zero_add, List.length_map]; omega) (by (try simp only [hgl, hgr, Form.row_len, Form.take, List.length_map, List.take_succ_cons, List.take_zero, List.drop_succ_cons, List.drop_zero, List.take_nil, List.drop_nil, List.nil_append, List.cons_append, List.append_nil, List.length_cons, List.length_nil, List.head?_cons, List.map_cons, List.map_nil, Nat.reduceAdd, Nat.zero_add, List.length_map]); rfl) (by simp only [fpOf, idOf, Option.getD_some, Option.getD_none, Op.operands, Call.operands, V.idsL, V.ids, idsL_t, List.append_nil, List.nil_append, List.cons_append, List.toList_toArray, List.map_toArray, List.size_toArray, List.append_toArray, ev_tmp, ev_const, ev_func, upd_at, slots_cons, slots_nil, objs_cons, objs_nil, Nat.reduceLT, Nat.reduceEqDiff, Nat.reduceAdd, reduceIte, if_true, if_false, ofVal, ofS, noOb, reduceCtorEq, List.take_succ_cons, List.take_zero, List.drop_succ_cons, List.drop_zero, List.take_nil, List.drop_nil, List.nil_append, List.cons_append, List.append_nil, List.length_cons, List.length_nil, List.head?_cons, List.map_cons, List.map_nil, Nat.reduceAdd, Nat.zero_add, List.length_map, hgl, hgr, Form.row_len, Form.take, List.length_map]; rfl) ?_
                refine r_fieldAddr rfl yF26_4e (by conv => lhs; whnf) (by conv => lhs; whnf) (by simp only [fpOf, idOf, Option.getD_some, Option.getD_none, Op.operands, Call.operands, V.idsL, V.ids, idsL_t, List.append_nil, List.nil_append, List.cons_append, List.toList_toArray, List.map_toArray, List.size_toArray, List.append_toArray, ev_tmp, ev_const, ev_func, upd_at, slots_cons, slots_nil, objs_cons, objs_nil, Nat.reduceLT, Nat.reduceEqDiff, Nat.reduceAdd, reduceIte, if_true, if_false, ofVal, ofS, noOb, reduceCtorEq, List.take_succ_cons, List.take_zero, List.drop_succ_cons, List.drop_zero, List.take_nil, List.drop_nil, List.nil_append, List.cons_append, List.append_nil, List.length_cons, List.length_nil, List.head?_cons, List.map_cons, List.map_nil, Nat.reduceAdd, Nat.zero_add, List.length_map, hgl, hgr, Form.row_len, Form.take, List.length_map]; rfl) ?_
                refine r_load1 rfl yA24e (by conv => lhs; whnf) (by conv => lhs; whnf) (by (try simp only [hgl, hgr, Form.row_len, Form.take, List.length_map, List.take_succ_cons, List.take_zero, List.drop_succ_cons, List.drop_zero, List.take_nil, List.drop_nil, List.nil_append, List.cons_append, List.append_nil, List.length_cons, List.length_nil, List.head?_cons, List.map_cons, List.map_nil, Nat.reduceAdd, Nat.zero_add, List.length_map]); rfl) (by simp only [fpOf, idOf, Option.getD_some, Option.getD_none, Op.operands, Call.operands, V.idsL, V.ids, idsL_t, List.append_nil, List.nil_append, List.cons_append, List.toList_toArray, List.map_toArray, List.size_toArray, List.append_toArray, ev_tmp, ev_const, ev_func, upd_at, slots_cons, slots_nil, objs_cons, objs_nil, Nat.reduceLT, Nat.reduceEqDiff, Nat.reduceAdd, reduceIte, if_true, if_false, ofVal, ofS, noOb, reduceCtorEq, List.take_succ_cons, List.take_zero, List.drop_succ_cons, List.drop_zero, List.take_nil, List.drop_nil, List.nil_append, List.cons_append, List.append_nil, List.length_cons, List.length_nil, List.head?_cons, List.map_cons, List.map_nil, Nat.reduceAdd, Nat.zero_add, List.length_map, hgl, hgr, Form.row_len, Form.take, List.length_map]; rfl) ?_
                refine r_move rfl (by conv => lhs; whnf) (by simp only [fpOf, idOf, Option.getD_some, Option.getD_none, Op.operands, Call.operands, V.idsL, V.ids, idsL_t, List.append_nil, List.nil_append, List.cons_append, List.toList_toArray, List.map_toArray, List.size_toArray, List.append_toArray, ev_tmp, ev_const, ev_func, upd_at, slots_cons, slots_nil, objs_cons, objs_nil, Nat.reduceLT, Nat.reduceEqDiff, Nat.reduceAdd, reduceIte, if_true, if_false, ofVal, ofS, noOb, reduceCtorEq, List.take_succ_cons, List.take_zero, List.drop_succ_cons, List.drop_zero, List.take_nil, List.drop_nil, List.nil_append, List.cons_append, List.append_nil, List.length_cons, List.length_nil, List.head?_cons, List.map_cons, List.map_nil, Nat.reduceAdd, Nat.zero_add, List.length_map, hgl, hgr, Form.row_len, Form.take, List.length_map]; rfl) ?_
                refine r_indexAddr rfl yE24e (by conv => lhs; whnf) (by conv => lhs; whnf) (by omega) (by simp only [hgl, hgr, Form.row_len, Form.take, List.length_map, indexP, ev_tmp, ev_const, ev_func, upd_at, slots_cons, slots_nil, objs_cons, objs_nil, Nat.reduceLT, Nat.reduceEqDiff, Nat.reduceAdd, reduceIte, if_true, if_false, ofVal, ofS, noOb, reduceCtorEq]; rfl) (by simp only [fpOf, idOf, Option.getD_some, Option.getD_none, Op.operands, Call.operands, V.idsL, V.ids, idsL_t, List.append_nil, List.nil_append, List.cons_append, List.toList_toArray, List.map_toArray, List.size_toArray, List.append_toArray, ev_tmp, ev_const, ev_func, upd_at, slots_cons, slots_nil, objs_cons, objs_nil, Nat.reduceLT, Nat.reduceEqDiff, Nat.reduceAdd, reduceIte, if_true, if_false, ofVal, ofS, noOb, reduceCtorEq, List.take_succ_cons, List.take_zero, List.drop_succ_cons, List.drop_zero, List.take_nil, List.drop_nil, List.nil_append, List.cons_append, List.append_nil, List.length_cons, List.length_nil, List.head?_cons, List.map_cons, List.map_nil, Nat.reduceAdd, Nat.zero_add, List.length_map, hgl, hgr, Form.row_len, Form.take, List.length_map]; rfl) ?_
                refine r_loadN rfl yA26e yS26e (by conv => lhs; whnf) (by conv => lhs; whnf) (by simp only [hgl, hgr, Form.row_len, Form.take, List.length_map, List.take_succ_cons, List.take_zero, List.drop_succ_cons, List.drop_zero, List.take_nil, List.drop_nil, List.nil_append, List.cons_append, List.append_nil, List.length_cons, List.length_nil, List.head?_cons, List.map_cons, List.map_nil, Nat.reduceAdd, Nat.zero_add, List.length_map]; omega) (by (try simp only [hgl, hgr, Form.row_len, Form.take, List.length_map, List.take_succ_cons, List.take_zero, List.drop_succ_cons, List.drop_zero, List.take_nil, List.drop_nil, List.nil_append, List.cons_append, List.append_nil, List.length_cons, List.length_nil, List.head?_cons, List.map_cons, List.map_nil, Nat.reduceAdd, Nat.zero_add, List.length_map]); rfl) (by simp only [fpOf, idOf, Option.getD_some, Option.getD_none, Op.operands, Call.operands, V.idsL, V.ids, idsL_t, List.append_nil, List.nil_append, List.cons_append, List.toList_toArray, List.map_toArray, List.size_toArray, List.append_toArray, ev_tmp, ev_const, ev_func, upd_at, slots_cons, slots_nil, objs_cons, objs_nil, Nat.reduceLT, Nat.reduceEqDiff, Nat.reduceAdd, reduceIte, if_true, if_false, ofVal, ofS, noOb, reduceCtorEq, List.take_succ_cons, List.take_zero, List.drop_succ_cons, List.drop_zero, List.take_nil, List.drop_nil, List.nil_append, List.cons_append, List.append_nil, List.length_cons, List.length_nil, List.head?_cons, List.map_cons, List.map_nil, Nat.reduceAdd, Nat.zero_add, List.length_map, hgl, hgr, Form.row_len, Form.take, List.length_map]; rfl) ?_
                refine r_pure [] rfl rfl rfl (by conv => lhs; whnf) (by simp only [hgl, hgr, Form.row_len, Form.take, List.length_map, ev_tmp, ev_const, ev_func, upd_at, slots_cons, slots_nil, objs_cons, objs_nil, Nat.reduceLT, Nat.reduceEqDiff, Nat.reduceAdd, reduceIte, if_true, if_false, ofVal, ofS, noOb, reduceCtorEq, List.take_succ_cons, List.take_zero, List.drop_succ_cons, List.drop_zero, List.take_nil, List.drop_nil, List.nil_append, List.cons_append, List.append_nil, List.length_cons, List.length_nil, List.head?_cons, List.map_cons, List.map_nil, Nat.reduceAdd, Nat.zero_add, List.length_map, List.toList_toArray]; rfl) (by simp only [hgl, hgr, Form.row_len, Form.take, List.length_map, fzU, ev_tmp, ev_const, ev_func, upd_at, slots_cons, slots_nil, objs_cons, objs_nil, Nat.reduceLT, Nat.reduceEqDiff, Nat.reduceAdd, reduceIte, if_true, if_false, ofVal, ofS, noOb, reduceCtorEq]; rfl) (by simp only [app]; rfl) (hkid) (by exact ⟨(by first | exact pass_id rfl | exact pass_id (ids_row _) | exact .inr (.inl ⟨_, rfl, rfl, by simp [fz]⟩) | exact .inr (.inr ⟨_, _, rfl, rfl, rfl, by simp [fz]⟩)), (by first | exact pass_id rfl | exact pass_id (ids_row _) | exact .inr (.inl ⟨_, rfl, rfl, by simp [fz]⟩) | exact .inr (.inr ⟨_, _, rfl, rfl, rfl, by simp [fz]⟩)), trivial⟩) (by simp only [fpOf, Op.operands, Call.operands, V.idsL, V.ids, idsL_t, List.append_nil, List.nil_append, List.cons_append, List.map_toArray, List.append_toArray, hgl, hgr, Form.row_len, Form.take, List.length_map, ev_tmp, ev_const, ev_func, upd_at, slots_cons, slots_nil, objs_cons, objs_nil, Nat.reduceLT, Nat.reduceEqDiff, Nat.reduceAdd, reduceIte, if_true, if_false, ofVal, ofS, noOb, reduceCtorEq, List.take_succ_cons, List.take_zero, List.drop_succ_cons, List.drop_zero, List.take_nil, List.drop_nil, List.nil_append, List.cons_append, List.append_nil, List.length_cons, List.length_nil, List.head?_cons, List.map_cons, List.map_nil, Nat.reduceAdd, Nat.zero_add, List.length_map]; rfl) ?_
                refine r_un rfl (by conv => lhs; whnf) (by conv => lhs; whnf) (by simp only [fpOf, idOf, Option.getD_some, Option.getD_none, Op.operands, Call.operands, V.idsL, V.ids, idsL_t, List.append_nil, List.nil_append, List.cons_append, List.toList_toArray, List.map_toArray, List.size_toArray, List.append_toArray, ev_tmp, ev_const, ev_func, upd_at, slots_cons, slots_nil, objs_cons, objs_nil, Nat.reduceLT, Nat.reduceEqDiff, Nat.reduceAdd, reduceIte, if_true, if_false, ofVal, ofS, noOb, reduceCtorEq, List.take_succ_cons, List.take_zero, List.drop_succ_cons, List.drop_zero, List.take_nil, List.drop_nil, List.nil_append, List.cons_append, List.append_nil, List.length_cons, List.length_nil, List.head?_cons, List.map_cons, List.map_nil, Nat.reduceAdd, Nat.zero_add, List.length_map, hgl, hgr, Form.row_len, Form.take, List.length_map]; rfl) ?_
                refine k_nilD (by simp only [List.reverse_cons, List.reverse_nil, List.nil_append, List.cons_append]; kernel_rfl) ?_
                refine k_seq ?_
                refine awp_cond rfl (fun hc => ?_) (fun hc => ?_)
                · have hne : eqb kids z_kids = false := (eqb_not _ _).2 (fun e => by subst e; simp [eqb] at hc)
                  refine awp_seq ?_
                  refine awp_region ?_
                  refine r_assign rfl (by conv => lhs; whnf) rfl ?_
                  refine k_nil ?_
                  refine k_seq ?_
                  refine awp_ret ?_
                  refine k_blk_ret ?_
                  refine k_seq_ret ?_
                  refine k_rnd_ret ?_
                  refine k_blk_ret ?_
                  refine k_seq_ret ?_
                  refine k_fin ?_
                  refine ends_pure [] (by simp only [Try.results34, resOf, hgl, hgr, Form.row_len, Form.take, List.length_map, ev_tmp, ev_const, ev_func, upd_at, slots_cons, slots_nil, objs_cons, objs_nil, Nat.reduceLT, Nat.reduceEqDiff, Nat.reduceAdd, reduceIte, if_true, if_false, ofVal, ofS, noOb, reduceCtorEq]; rfl) (by rw [hne]; exact ⟨give_id _, trivial⟩) (by simp [V.idsL, V.ids])
                · have he : kids[j] = z_kids[j] := by simpa [eqb] using hc
                  refine awp_skip ?_
                  refine k_blk ?_
                  refine k_seq ?_
                  refine awp_region ?_
                  refine r_move rfl (by conv => lhs; whnf) rfl ?_
                  refine r_bin rfl (by conv => lhs; whnf) (by conv => lhs; whnf) (by simp only [hgl, hgr, Form.row_len, Form.take, List.length_map, abin, reduceIte, ne_eq, decide_not, Bool.not_true, Bool.not_false]; rfl) rfl ?_
                  refine r_assign rfl (by conv => lhs; whnf) rfl ?_
                  refine k_nil ?_
                  refine k_rnd (j + 1) ⟨hlt, by rw [List.take_succ_eq_append_getElem hlt, List.take_succ_eq_append_getElem hlt2, htk, he]⟩ (by show kids.length - (j + 1) < kids.length - j; omega) (by repeat (first | exact off_frame _ _ _ | exact off_refl _ _ | refine off_upd rfl ?_ | refine off_sub rfl ?_)) (by repeat (first | exact off_frame _ _ _ | exact off_refl _ _ | refine off_upd rfl ?_ | refine off_sub rfl ?_)) (hasF_cons (by conv => lhs; whnf) (by rw [hw1]; push_cast; rfl) (by first | rfl | simp [V.ids, V.idsL, idsL_t, Ob.ids]) trivial) trivial
              · have hje : j = kids.length := by have := of_decide_eq_false hc; omega
                have he : eqb kids z_kids = true := (eqb_iff _ _).2 (by rw [hje, List.take_length, hlen, List.take_length] at htk; exact htk)
                refine awp_exit ?_
                refine k_seq_exit ?_
                refine k_rnd_exit ?_
                refine k_blk_exit ?_
                refine k_seq ?_
                refine awp_seq ?_
                refine awp_region ?_
                refine r_assign rfl (by conv => lhs; whnf) rfl ?_
                refine k_nil ?_
                refine k_seq ?_
                refine awp_ret ?_
                refine k_fin ?_
                refine ends_pure [] (by simp only [Try.results34, resOf, List.length_map, ev_tmp, ev_const, ev_func, upd_at, slots_cons, slots_nil, objs_cons, objs_nil, Nat.reduceLT, Nat.reduceEqDiff, Nat.reduceAdd, reduceIte, if_true, if_false, ofVal, ofS, noOb, reduceCtorEq]; rfl) (by rw [he]; exact ⟨give_id _, trivial⟩) (by simp [V.idsL, V.ids])
          · rw [hg8]
            refine r_fieldAddr rfl yF26_4e (by conv => lhs; whnf) (by conv => lhs; whnf) rfl ?_
            refine r_load1 rfl yA24e (by conv => lhs; whnf) (by conv => lhs; whnf) (by (try simp only [List.take_succ_cons, List.take_zero, List.drop_succ_cons, List.drop_zero, List.take_nil, List.drop_nil, List.nil_append, List.cons_append, List.append_nil, List.length_cons, List.length_nil, List.head?_cons, List.map_cons, List.map_nil, Nat.reduceAdd, Nat.zero_add, List.length_map]); rfl) rfl ?_
            refine r_len rfl yU24e (by conv => lhs; whnf) (by conv => lhs; whnf) rfl ?_
            refine r_fieldAddr rfl yF26_4e (by conv => lhs; whnf) (by conv => lhs; whnf) rfl ?_
            refine r_load1 rfl yA24e (by conv => lhs; whnf) (by conv => lhs; whnf) (by (try simp only [List.take_succ_cons, List.take_zero, List.drop_succ_cons, List.drop_zero, List.take_nil, List.drop_nil, List.nil_append, List.cons_append, List.append_nil, List.length_cons, List.length_nil, List.head?_cons, List.map_cons, List.map_nil, Nat.reduceAdd, Nat.zero_add, List.length_map]); rfl) rfl ?_
            refine r_len rfl yU24e (by conv => lhs; whnf) (by conv => lhs; whnf) rfl ?_
            refine r_bin rfl (by conv => lhs; whnf) (by conv => lhs; whnf) (by simp only [abin, reduceIte, ne_eq, decide_not, Bool.not_true, Bool.not_false]; rfl) rfl ?_
            refine r_pick rfl (by conv => lhs; whnf) (by conv => lhs; whnf) rfl ?_
            refine k_nil ?_
            refine k_seq ?_
            refine awp_cond rfl (fun hg10 => ?_) (fun hg10 => ?_)
            · refine awp_seq ?_
              refine awp_region ?_
              refine r_assign rfl (by conv => lhs; whnf) rfl ?_
              refine k_nil ?_
              refine k_seq ?_
              refine awp_ret ?_
              refine k_seq_ret ?_
              refine k_fin ?_
              refine ends_pure [] (by simp only [Try.results34, resOf, ev_tmp, ev_const, ev_func, upd_at, slots_cons, slots_nil, objs_cons, objs_nil, Nat.reduceLT, Nat.reduceEqDiff, Nat.reduceAdd, reduceIte, if_true, if_false, ofVal, ofS, noOb, reduceCtorEq]; rfl) (by
                refine ⟨.inl (congrArg (fun b => V.t (.sc (.bool b))) ?_), trivial⟩
                rw [Bool.eq_iff_iff]
                simp only [eqb_iff, Bool.false_eq_true, decide_eq_true_eq, Core.mk.injEq, Form.mk.injEq, Step.mk.injEq, Bind.mk.injEq, Hit.mk.injEq, Rule.mk.injEq, Macro.mk.injEq, Expansion.mk.injEq]
                simp_all [eqb_iff, eqb_not, -List.map_inj_left] <;> (try (intro e; subst e; simp_all))) (by simp [V.idsL, V.ids])
            · refine awp_skip ?_
              refine k_seq ?_
              refine awp_seq ?_
              refine awp_seq ?_
              refine awp_region ?_
              refine r_assign rfl (by conv => lhs; whnf) rfl ?_
              refine k_nil ?_
              refine k_seq ?_
              refine awp_block ?_
              have hAll : kind = z_kind ∧ name = z_name ∧ n = z_n ∧ scopes = z_scopes ∧ kids.length = z_kids.length := by simp_all [eqb_iff, eqb_not] <;> omega
              obtain ⟨rfl, rfl, rfl, rfl, hlen⟩ := hAll
              skip
              have hred : eqb (Form.mk kind name n scopes kids) (Form.mk kind name n scopes z_kids) = eqb kids z_kids := by rw [Bool.eq_iff_iff]; simp [eqb_iff]
              rw [hred]
              refine awp_frame [4, 5, 42, 43, 44, 45, 46, 47, 48, 49, 50, 51, 52, 53, 54, 55, 56, 57, 58, 59, 60] [] [] (fun j : Nat => kids.length - j) (fun j : Nat => [(5, vi j)]) (fun j : Nat => []) (fun j => j ≤ kids.length ∧ kids.take j = z_kids.take j) 0 ⟨Nat.zero_le _, by simp⟩ (by rfl) (by rfl) (fun _ => rfl) (hasF_cons (by conv => lhs; whnf) (by first | rfl | simp) (by first | rfl | simp [V.ids, V.idsL, idsL_t, Ob.ids]) trivial) trivial ?_
              rintro j ⟨hj, htk⟩
              refine awp_seq ?_
              refine awp_seq ?_
              refine awp_region ?_
              refine r_move rfl (by conv => lhs; whnf) rfl ?_
              refine r_fieldAddr rfl yF26_4e (by conv => lhs; whnf) (by conv => lhs; whnf) rfl ?_
              refine r_load1 rfl yA24e (by conv => lhs; whnf) (by conv => lhs; whnf) (by (try simp only [List.length_map, List.take_succ_cons, List.take_zero, List.drop_succ_cons, List.drop_zero, List.take_nil, List.drop_nil, List.nil_append, List.cons_append, List.append_nil, List.length_cons, List.length_nil, List.head?_cons, List.map_cons, List.map_nil, Nat.reduceAdd, Nat.zero_add, List.length_map]); rfl) rfl ?_
              refine r_len rfl yU24e (by conv => lhs; whnf) (by conv => lhs; whnf) rfl ?_
              refine r_bin rfl (by conv => lhs; whnf) (by conv => lhs; whnf) (by simp only [List.length_map, abin, reduceIte, ne_eq, decide_not, Bool.not_true, Bool.not_false]; rfl) rfl ?_
              refine k_nil ?_
              refine k_seq ?_
              refine awp_cond rfl (fun hc => ?_) (fun hc => ?_)
              · have hlt : j < kids.length := by have := of_decide_eq_true hc; omega
                have hlt2 : j < z_kids.length := by omega
                have hgl := map_get Form.row kids j hlt
                have hgr := map_get Form.row z_kids j hlt2
                have hw1 := IntWalk.i64_in ((j : Int) + 1) (by omega)
                clear hc
                have hle := T.wtR_le Form.row kids (j + 1)
                have hsucc := T.wtR_succ Form.row kids j hlt
                have hle2 := T.wtR_le Form.row z_kids (j + 1)
                have hsucc2 := T.wtR_succ Form.row z_kids j hlt2
                have hmem : kids[j] ∈ kids := List.getElem_mem hlt
                have hkid := specFormSame_ok kids[j] z_kids[j] (by omega) (by omega)
                refine awp_skip ?_
                refine k_seq ?_
                refine awp_seq ?_
                refine awp_block ?_
                refine awp_seq ?_
                refine awp_draw yMixe (by kernel_rfl) ?_
                refine r_fieldAddr rfl yF26_4e (by conv => lhs; whnf) (by conv => lhs; whnf) (by simp only [fpOf, idOf, Option.getD_some, Option.getD_none, Op.operands, Call.operands, V.idsL, V.ids, idsL_t, List.append_nil, List.nil_append, List.cons_append, List.toList_toArray, List.map_toArray, List.size_toArray, List.append_toArray, ev_tmp, ev_const, ev_func, upd_at, slots_cons, slots_nil, objs_cons, objs_nil, Nat.reduceLT, Nat.reduceEqDiff, Nat.reduceAdd, reduceIte, if_true, if_false, ofVal, ofS, noOb, reduceCtorEq, List.take_succ_cons, List.take_zero, List.drop_succ_cons, List.drop_zero, List.take_nil, List.drop_nil, List.nil_append, List.cons_append, List.append_nil, List.length_cons, List.length_nil, List.head?_cons, List.map_cons, List.map_nil, Nat.reduceAdd, Nat.zero_add, List.length_map, hgl, hgr, Form.row_len, Form.take, List.length_map]; rfl) ?_
                refine r_load1 rfl yA24e (by conv => lhs; whnf) (by conv => lhs; whnf) (by (try simp only [hgl, hgr, Form.row_len, Form.take, List.length_map, List.take_succ_cons, List.take_zero, List.drop_succ_cons, List.drop_zero, List.take_nil, List.drop_nil, List.nil_append, List.cons_append, List.append_nil, List.length_cons, List.length_nil, List.head?_cons, List.map_cons, List.map_nil, Nat.reduceAdd, Nat.zero_add, List.length_map]); rfl) (by simp only [fpOf, idOf, Option.getD_some, Option.getD_none, Op.operands, Call.operands, V.idsL, V.ids, idsL_t, List.append_nil, List.nil_append, List.cons_append, List.toList_toArray, List.map_toArray, List.size_toArray, List.append_toArray, ev_tmp, ev_const, ev_func, upd_at, slots_cons, slots_nil, objs_cons, objs_nil, Nat.reduceLT, Nat.reduceEqDiff, Nat.reduceAdd, reduceIte, if_true, if_false, ofVal, ofS, noOb, reduceCtorEq, List.take_succ_cons, List.take_zero, List.drop_succ_cons, List.drop_zero, List.take_nil, List.drop_nil, List.nil_append, List.cons_append, List.append_nil, List.length_cons, List.length_nil, List.head?_cons, List.map_cons, List.map_nil, Nat.reduceAdd, Nat.zero_add, List.length_map, hgl, hgr, Form.row_len, Form.take, List.length_map]; rfl) ?_
                refine r_move rfl (by conv => lhs; whnf) (by simp only [fpOf, idOf, Option.getD_some, Option.getD_none, Op.operands, Call.operands, V.idsL, V.ids, idsL_t, List.append_nil, List.nil_append, List.cons_append, List.toList_toArray, List.map_toArray, List.size_toArray, List.append_toArray, ev_tmp, ev_const, ev_func, upd_at, slots_cons, slots_nil, objs_cons, objs_nil, Nat.reduceLT, Nat.reduceEqDiff, Nat.reduceAdd, reduceIte, if_true, if_false, ofVal, ofS, noOb, reduceCtorEq, List.take_succ_cons, List.take_zero, List.drop_succ_cons, List.drop_zero, List.take_nil, List.drop_nil, List.nil_append, List.cons_append, List.append_nil, List.length_cons, List.length_nil, List.head?_cons, List.map_cons, List.map_nil, Nat.reduceAdd, Nat.zero_add, List.length_map, hgl, hgr, Form.row_len, Form.take, List.length_map]; rfl) ?_
                refine r_indexAddr rfl yE24e (by conv => lhs; whnf) (by conv => lhs; whnf) (by omega) (by simp only [hgl, hgr, Form.row_len, Form.take, List.length_map, indexP, ev_tmp, ev_const, ev_func, upd_at, slots_cons, slots_nil, objs_cons, objs_nil, Nat.reduceLT, Nat.reduceEqDiff, Nat.reduceAdd, reduceIte, if_true, if_false, ofVal, ofS, noOb, reduceCtorEq]; rfl) (by simp only [fpOf, idOf, Option.getD_some, Option.getD_none, Op.operands, Call.operands, V.idsL, V.ids, idsL_t, List.append_nil, List.nil_append, List.cons_append, List.toList_toArray, List.map_toArray, List.size_toArray, List.append_toArray, ev_tmp, ev_const, ev_func, upd_at, slots_cons, slots_nil, objs_cons, objs_nil, Nat.reduceLT, Nat.reduceEqDiff, Nat.reduceAdd, reduceIte, if_true, if_false, ofVal, ofS, noOb, reduceCtorEq, List.take_succ_cons, List.take_zero, List.drop_succ_cons, List.drop_zero, List.take_nil, List.drop_nil, List.nil_append, List.cons_append, List.append_nil, List.length_cons, List.length_nil, List.head?_cons, List.map_cons, List.map_nil, Nat.reduceAdd, Nat.zero_add, List.length_map, hgl, hgr, Form.row_len, Form.take, List.length_map]; rfl) ?_
                refine r_loadN rfl yA26e yS26e (by conv => lhs; whnf) (by conv => lhs; whnf) (by simp only [hgl, hgr, Form.row_len, Form.take, List.length_map, List.take_succ_cons, List.take_zero, List.drop_succ_cons, List.drop_zero, List.take_nil, List.drop_nil, List.nil_append, List.cons_append, List.append_nil, List.length_cons, List.length_nil, List.head?_cons, List.map_cons, List.map_nil, Nat.reduceAdd, Nat.zero_add, List.length_map]; omega) (by (try simp only [hgl, hgr, Form.row_len, Form.take, List.length_map, List.take_succ_cons, List.take_zero, List.drop_succ_cons, List.drop_zero, List.take_nil, List.drop_nil, List.nil_append, List.cons_append, List.append_nil, List.length_cons, List.length_nil, List.head?_cons, List.map_cons, List.map_nil, Nat.reduceAdd, Nat.zero_add, List.length_map]); rfl) (by simp only [fpOf, idOf, Option.getD_some, Option.getD_none, Op.operands, Call.operands, V.idsL, V.ids, idsL_t, List.append_nil, List.nil_append, List.cons_append, List.toList_toArray, List.map_toArray, List.size_toArray, List.append_toArray, ev_tmp, ev_const, ev_func, upd_at, slots_cons, slots_nil, objs_cons, objs_nil, Nat.reduceLT, Nat.reduceEqDiff, Nat.reduceAdd, reduceIte, if_true, if_false, ofVal, ofS, noOb, reduceCtorEq, List.take_succ_cons, List.take_zero, List.drop_succ_cons, List.drop_zero, List.take_nil, List.drop_nil, List.nil_append, List.cons_append, List.append_nil, List.length_cons, List.length_nil, List.head?_cons, List.map_cons, List.map_nil, Nat.reduceAdd, Nat.zero_add, List.length_map, hgl, hgr, Form.row_len, Form.take, List.length_map]; rfl) ?_
                refine r_fieldAddr rfl yF26_4e (by conv => lhs; whnf) (by conv => lhs; whnf) (by simp only [fpOf, idOf, Option.getD_some, Option.getD_none, Op.operands, Call.operands, V.idsL, V.ids, idsL_t, List.append_nil, List.nil_append, List.cons_append, List.toList_toArray, List.map_toArray, List.size_toArray, List.append_toArray, ev_tmp, ev_const, ev_func, upd_at, slots_cons, slots_nil, objs_cons, objs_nil, Nat.reduceLT, Nat.reduceEqDiff, Nat.reduceAdd, reduceIte, if_true, if_false, ofVal, ofS, noOb, reduceCtorEq, List.take_succ_cons, List.take_zero, List.drop_succ_cons, List.drop_zero, List.take_nil, List.drop_nil, List.nil_append, List.cons_append, List.append_nil, List.length_cons, List.length_nil, List.head?_cons, List.map_cons, List.map_nil, Nat.reduceAdd, Nat.zero_add, List.length_map, hgl, hgr, Form.row_len, Form.take, List.length_map]; rfl) ?_
                refine r_load1 rfl yA24e (by conv => lhs; whnf) (by conv => lhs; whnf) (by (try simp only [hgl, hgr, Form.row_len, Form.take, List.length_map, List.take_succ_cons, List.take_zero, List.drop_succ_cons, List.drop_zero, List.take_nil, List.drop_nil, List.nil_append, List.cons_append, List.append_nil, List.length_cons, List.length_nil, List.head?_cons, List.map_cons, List.map_nil, Nat.reduceAdd, Nat.zero_add, List.length_map]); rfl) (by simp only [fpOf, idOf, Option.getD_some, Option.getD_none, Op.operands, Call.operands, V.idsL, V.ids, idsL_t, List.append_nil, List.nil_append, List.cons_append, List.toList_toArray, List.map_toArray, List.size_toArray, List.append_toArray, ev_tmp, ev_const, ev_func, upd_at, slots_cons, slots_nil, objs_cons, objs_nil, Nat.reduceLT, Nat.reduceEqDiff, Nat.reduceAdd, reduceIte, if_true, if_false, ofVal, ofS, noOb, reduceCtorEq, List.take_succ_cons, List.take_zero, List.drop_succ_cons, List.drop_zero, List.take_nil, List.drop_nil, List.nil_append, List.cons_append, List.append_nil, List.length_cons, List.length_nil, List.head?_cons, List.map_cons, List.map_nil, Nat.reduceAdd, Nat.zero_add, List.length_map, hgl, hgr, Form.row_len, Form.take, List.length_map]; rfl) ?_
                refine r_move rfl (by conv => lhs; whnf) (by simp only [fpOf, idOf, Option.getD_some, Option.getD_none, Op.operands, Call.operands, V.idsL, V.ids, idsL_t, List.append_nil, List.nil_append, List.cons_append, List.toList_toArray, List.map_toArray, List.size_toArray, List.append_toArray, ev_tmp, ev_const, ev_func, upd_at, slots_cons, slots_nil, objs_cons, objs_nil, Nat.reduceLT, Nat.reduceEqDiff, Nat.reduceAdd, reduceIte, if_true, if_false, ofVal, ofS, noOb, reduceCtorEq, List.take_succ_cons, List.take_zero, List.drop_succ_cons, List.drop_zero, List.take_nil, List.drop_nil, List.nil_append, List.cons_append, List.append_nil, List.length_cons, List.length_nil, List.head?_cons, List.map_cons, List.map_nil, Nat.reduceAdd, Nat.zero_add, List.length_map, hgl, hgr, Form.row_len, Form.take, List.length_map]; rfl) ?_
                refine r_indexAddr rfl yE24e (by conv => lhs; whnf) (by conv => lhs; whnf) (by omega) (by simp only [hgl, hgr, Form.row_len, Form.take, List.length_map, indexP, ev_tmp, ev_const, ev_func, upd_at, slots_cons, slots_nil, objs_cons, objs_nil, Nat.reduceLT, Nat.reduceEqDiff, Nat.reduceAdd, reduceIte, if_true, if_false, ofVal, ofS, noOb, reduceCtorEq]; rfl) (by simp only [fpOf, idOf, Option.getD_some, Option.getD_none, Op.operands, Call.operands, V.idsL, V.ids, idsL_t, List.append_nil, List.nil_append, List.cons_append, List.toList_toArray, List.map_toArray, List.size_toArray, List.append_toArray, ev_tmp, ev_const, ev_func, upd_at, slots_cons, slots_nil, objs_cons, objs_nil, Nat.reduceLT, Nat.reduceEqDiff, Nat.reduceAdd, reduceIte, if_true, if_false, ofVal, ofS, noOb, reduceCtorEq, List.take_succ_cons, List.take_zero, List.drop_succ_cons, List.drop_zero, List.take_nil, List.drop_nil, List.nil_append, List.cons_append, List.append_nil, List.length_cons, List.length_nil, List.head?_cons, List.map_cons, List.map_nil, Nat.reduceAdd, Nat.zero_add, List.length_map, hgl, hgr, Form.row_len, Form.take, List.length_map]; rfl) ?_
                refine r_loadN rfl yA26e yS26e (by conv => lhs; whnf) (by conv => lhs; whnf) (by simp only [hgl, hgr, Form.row_len, Form.take, List.length_map, List.take_succ_cons, List.take_zero, List.drop_succ_cons, List.drop_zero, List.take_nil, List.drop_nil, List.nil_append, List.cons_append, List.append_nil, List.length_cons, List.length_nil, List.head?_cons, List.map_cons, List.map_nil, Nat.reduceAdd, Nat.zero_add, List.length_map]; omega) (by (try simp only [hgl, hgr, Form.row_len, Form.take, List.length_map, List.take_succ_cons, List.take_zero, List.drop_succ_cons, List.drop_zero, List.take_nil, List.drop_nil, List.nil_append, List.cons_append, List.append_nil, List.length_cons, List.length_nil, List.head?_cons, List.map_cons, List.map_nil, Nat.reduceAdd, Nat.zero_add, List.length_map]); rfl) (by simp only [fpOf, idOf, Option.getD_some, Option.getD_none, Op.operands, Call.operands, V.idsL, V.ids, idsL_t, List.append_nil, List.nil_append, List.cons_append, List.toList_toArray, List.map_toArray, List.size_toArray, List.append_toArray, ev_tmp, ev_const, ev_func, upd_at, slots_cons, slots_nil, objs_cons, objs_nil, Nat.reduceLT, Nat.reduceEqDiff, Nat.reduceAdd, reduceIte, if_true, if_false, ofVal, ofS, noOb, reduceCtorEq, List.take_succ_cons, List.take_zero, List.drop_succ_cons, List.drop_zero, List.take_nil, List.drop_nil, List.nil_append, List.cons_append, List.append_nil, List.length_cons, List.length_nil, List.head?_cons, List.map_cons, List.map_nil, Nat.reduceAdd, Nat.zero_add, List.length_map, hgl, hgr, Form.row_len, Form.take, List.length_map]; rfl) ?_
                refine r_pure [] rfl rfl rfl (by conv => lhs; whnf) (by simp only [hgl, hgr, Form.row_len, Form.take, List.length_map, ev_tmp, ev_const, ev_func, upd_at, slots_cons, slots_nil, objs_cons, objs_nil, Nat.reduceLT, Nat.reduceEqDiff, Nat.reduceAdd, reduceIte, if_true, if_false, ofVal, ofS, noOb, reduceCtorEq, List.take_succ_cons, List.take_zero, List.drop_succ_cons, List.drop_zero, List.take_nil, List.drop_nil, List.nil_append, List.cons_append, List.append_nil, List.length_cons, List.length_nil, List.head?_cons, List.map_cons, List.map_nil, Nat.reduceAdd, Nat.zero_add, List.length_map, List.toList_toArray]; rfl) (by simp only [hgl, hgr, Form.row_len, Form.take, List.length_map, fzU, ev_tmp, ev_const, ev_func, upd_at, slots_cons, slots_nil, objs_cons, objs_nil, Nat.reduceLT, Nat.reduceEqDiff, Nat.reduceAdd, reduceIte, if_true, if_false, ofVal, ofS, noOb, reduceCtorEq]; rfl) (by simp only [app]; rfl) (hkid) (by exact ⟨(by first | exact pass_id rfl | exact pass_id (ids_row _) | exact .inr (.inl ⟨_, rfl, rfl, by simp [fz]⟩) | exact .inr (.inr ⟨_, _, rfl, rfl, rfl, by simp [fz]⟩)), (by first | exact pass_id rfl | exact pass_id (ids_row _) | exact .inr (.inl ⟨_, rfl, rfl, by simp [fz]⟩) | exact .inr (.inr ⟨_, _, rfl, rfl, rfl, by simp [fz]⟩)), trivial⟩) (by simp only [fpOf, Op.operands, Call.operands, V.idsL, V.ids, idsL_t, List.append_nil, List.nil_append, List.cons_append, List.map_toArray, List.append_toArray, hgl, hgr, Form.row_len, Form.take, List.length_map, ev_tmp, ev_const, ev_func, upd_at, slots_cons, slots_nil, objs_cons, objs_nil, Nat.reduceLT, Nat.reduceEqDiff, Nat.reduceAdd, reduceIte, if_true, if_false, ofVal, ofS, noOb, reduceCtorEq, List.take_succ_cons, List.take_zero, List.drop_succ_cons, List.drop_zero, List.take_nil, List.drop_nil, List.nil_append, List.cons_append, List.append_nil, List.length_cons, List.length_nil, List.head?_cons, List.map_cons, List.map_nil, Nat.reduceAdd, Nat.zero_add, List.length_map]; rfl) ?_
                refine r_un rfl (by conv => lhs; whnf) (by conv => lhs; whnf) (by simp only [fpOf, idOf, Option.getD_some, Option.getD_none, Op.operands, Call.operands, V.idsL, V.ids, idsL_t, List.append_nil, List.nil_append, List.cons_append, List.toList_toArray, List.map_toArray, List.size_toArray, List.append_toArray, ev_tmp, ev_const, ev_func, upd_at, slots_cons, slots_nil, objs_cons, objs_nil, Nat.reduceLT, Nat.reduceEqDiff, Nat.reduceAdd, reduceIte, if_true, if_false, ofVal, ofS, noOb, reduceCtorEq, List.take_succ_cons, List.take_zero, List.drop_succ_cons, List.drop_zero, List.take_nil, List.drop_nil, List.nil_append, List.cons_append, List.append_nil, List.length_cons, List.length_nil, List.head?_cons, List.map_cons, List.map_nil, Nat.reduceAdd, Nat.zero_add, List.length_map, hgl, hgr, Form.row_len, Form.take, List.length_map]; rfl) ?_
                refine k_nilD (by simp only [List.reverse_cons, List.reverse_nil, List.nil_append, List.cons_append]; kernel_rfl) ?_
                refine k_seq ?_
                refine awp_cond rfl (fun hc => ?_) (fun hc => ?_)
                · have hne : eqb kids z_kids = false := (eqb_not _ _).2 (fun e => by subst e; simp [eqb] at hc)
                  refine awp_seq ?_
                  refine awp_region ?_
                  refine r_assign rfl (by conv => lhs; whnf) rfl ?_
                  refine k_nil ?_
                  refine k_seq ?_
                  refine awp_ret ?_
                  refine k_blk_ret ?_
                  refine k_seq_ret ?_
                  refine k_rnd_ret ?_
                  refine k_blk_ret ?_
                  refine k_seq_ret ?_
                  refine k_fin ?_
                  refine ends_pure [] (by simp only [Try.results34, resOf, hgl, hgr, Form.row_len, Form.take, List.length_map, ev_tmp, ev_const, ev_func, upd_at, slots_cons, slots_nil, objs_cons, objs_nil, Nat.reduceLT, Nat.reduceEqDiff, Nat.reduceAdd, reduceIte, if_true, if_false, ofVal, ofS, noOb, reduceCtorEq]; rfl) (by rw [hne]; exact ⟨give_id _, trivial⟩) (by simp [V.idsL, V.ids])
                · have he : kids[j] = z_kids[j] := by simpa [eqb] using hc
                  refine awp_skip ?_
                  refine k_blk ?_
                  refine k_seq ?_
                  refine awp_region ?_
                  refine r_move rfl (by conv => lhs; whnf) rfl ?_
                  refine r_bin rfl (by conv => lhs; whnf) (by conv => lhs; whnf) (by simp only [hgl, hgr, Form.row_len, Form.take, List.length_map, abin, reduceIte, ne_eq, decide_not, Bool.not_true, Bool.not_false]; rfl) rfl ?_
                  refine r_assign rfl (by conv => lhs; whnf) rfl ?_
                  refine k_nil ?_
                  refine k_rnd (j + 1) ⟨hlt, by rw [List.take_succ_eq_append_getElem hlt, List.take_succ_eq_append_getElem hlt2, htk, he]⟩ (by show kids.length - (j + 1) < kids.length - j; omega) (by repeat (first | exact off_frame _ _ _ | exact off_refl _ _ | refine off_upd rfl ?_ | refine off_sub rfl ?_)) (by repeat (first | exact off_frame _ _ _ | exact off_refl _ _ | refine off_upd rfl ?_ | refine off_sub rfl ?_)) (hasF_cons (by conv => lhs; whnf) (by rw [hw1]; push_cast; rfl) (by first | rfl | simp [V.ids, V.idsL, idsL_t, Ob.ids]) trivial) trivial
              · have hje : j = kids.length := by have := of_decide_eq_false hc; omega
                have he : eqb kids z_kids = true := (eqb_iff _ _).2 (by rw [hje, List.take_length, hlen, List.take_length] at htk; exact htk)
                refine awp_exit ?_
                refine k_seq_exit ?_
                refine k_rnd_exit ?_
                refine k_blk_exit ?_
                refine k_seq ?_
                refine awp_seq ?_
                refine awp_region ?_
                refine r_assign rfl (by conv => lhs; whnf) rfl ?_
                refine k_nil ?_
                refine k_seq ?_
                refine awp_ret ?_
                refine k_fin ?_
                refine ends_pure [] (by simp only [Try.results34, resOf, List.length_map, ev_tmp, ev_const, ev_func, upd_at, slots_cons, slots_nil, objs_cons, objs_nil, Nat.reduceLT, Nat.reduceEqDiff, Nat.reduceAdd, reduceIte, if_true, if_false, ofVal, ofS, noOb, reduceCtorEq]; rfl) (by rw [he]; exact ⟨give_id _, trivial⟩) (by simp [V.idsL, V.ids])
termination_by a => SizeOf.sizeOf a
decreasing_by all_goals (have := List.sizeOf_lt_of_mem (by assumption); simp only [Form.mk.sizeOf_spec]; omega)
end Go.Abs
