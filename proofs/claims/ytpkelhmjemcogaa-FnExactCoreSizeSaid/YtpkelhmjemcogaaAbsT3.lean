/- A part of the proof: contracts of the functions that the law calls, on pure values. -/
import Derived.Test.YtpkelhmjemcogaaAbsT2
set_option linter.unusedSimpArgs false
set_option linter.unusedVariables false
namespace Go.Abs
open Go.Proofs
theorem yA42c : aggOf Try.prog 42 = some true := by kernel_rfl
theorem yS42c : szOf Try.prog 42 = some 11 := by kernel_rfl
theorem yZ29c : zcells Try.prog 29 = some [.t (.sc (.int .i64 0)), .t (.sc (.int .i64 0)), .t (.sc (.str ⟨#[]⟩)), .t (.sc (.int .i64 0)), .nl, .t (.sc (.int .i64 0)), .t (.sc (.str ⟨#[]⟩)), .t (.sc (.int .i64 0)), .nl, .nl, .nl] := by kernel_rfl
theorem yS29c : szOf Try.prog 29 = some 11 := by kernel_rfl
theorem yA29c : aggOf Try.prog 29 = some true := by kernel_rfl
theorem yMixc : Try.prog.follows .mixedOrders = true := by kernel_rfl
theorem fnExactCoreSize_ok (c : Core) (hok : T.okL c.row) : AC Try.prog 5 [.ag (c.row.map .t)] noOb (vb true) noOb := by
  refine AC_intro (rs := [_]) Try.func5 rfl (by kernel_rfl) (by simp [Try.ntmps5]) (by simp [noOb]) ?_
  intro C hC
  rw [Try.ntmps5]
  refine awp_seq ?_
  refine awp_region ?_
  refine r_box rfl (by conv => lhs; whnf) rfl (by conv => lhs; whnf) rfl rfl ?_
  refine r_assign rfl (by conv => lhs; whnf) rfl ?_
  refine k_nil ?_
  refine k_seq ?_
  refine awp_seq ?_
  refine awp_region ?_
  refine r_assign rfl (by conv => lhs; whnf) rfl ?_
  refine k_nil ?_
  refine k_seq ?_
  refine awp_seq ?_
  refine awp_region ?_
  refine r_loadN rfl yA42c yS42c (by conv => lhs; whnf) (by conv => lhs; whnf) (by simp only [Core.take, Core.row_len, List.take_succ_cons, List.take_zero, List.drop_succ_cons, List.drop_zero, List.take_nil, List.drop_nil, List.nil_append, List.cons_append, List.append_nil, List.length_cons, List.length_nil, List.head?_cons, List.map_cons, List.map_nil, Nat.reduceAdd, Nat.zero_add, List.length_map]; omega) (by (try simp only [Core.take, Core.row_len, List.take_succ_cons, List.take_zero, List.drop_succ_cons, List.drop_zero, List.take_nil, List.drop_nil, List.nil_append, List.cons_append, List.append_nil, List.length_cons, List.length_nil, List.head?_cons, List.map_cons, List.map_nil, Nat.reduceAdd, Nat.zero_add, List.length_map]); rfl) rfl ?_
  refine r_move rfl (by conv => lhs; whnf) rfl ?_
  refine r_pure [] rfl rfl rfl (by conv => lhs; whnf) (by simp only [Core.take, Core.row_len, ev_tmp, ev_const, ev_func, upd_at, slots_cons, slots_nil, objs_cons, objs_nil, Nat.reduceLT, Nat.reduceEqDiff, Nat.reduceAdd, reduceIte, if_true, if_false, ofVal, ofS, noOb, reduceCtorEq, List.take_succ_cons, List.take_zero, List.drop_succ_cons, List.drop_zero, List.take_nil, List.drop_nil, List.nil_append, List.cons_append, List.append_nil, List.length_cons, List.length_nil, List.head?_cons, List.map_cons, List.map_nil, Nat.reduceAdd, Nat.zero_add, List.length_map, List.toList_toArray]; rfl) (by simp only [Core.take, Core.row_len, fzU, ev_tmp, ev_const, ev_func, upd_at, slots_cons, slots_nil, objs_cons, objs_nil, Nat.reduceLT, Nat.reduceEqDiff, Nat.reduceAdd, reduceIte, if_true, if_false, ofVal, ofS, noOb, reduceCtorEq]; rfl) (by simp only [app]; rfl) (szCore_ok c 1048576 (by omega) (by omega) hok) (by exact ⟨(by first | exact pass_id rfl | exact pass_id (ids_row _) | exact .inr (.inl ⟨_, rfl, rfl, by simp [fz]⟩) | exact .inr (.inr ⟨_, _, rfl, rfl, rfl, by simp [fz]⟩)), (by first | exact pass_id rfl | exact pass_id (ids_row _) | exact .inr (.inl ⟨_, rfl, rfl, by simp [fz]⟩) | exact .inr (.inr ⟨_, _, rfl, rfl, rfl, by simp [fz]⟩)), trivial⟩) rfl ?_
  refine r_assign rfl (by conv => lhs; whnf) rfl ?_
  refine k_nil ?_
  refine k_seq ?_
  refine awp_seq ?_
  refine awp_seq ?_
  refine awp_region ?_
  refine r_move rfl (by conv => lhs; whnf) rfl ?_
  refine r_bin rfl (by conv => lhs; whnf) (by conv => lhs; whnf) (by simp only [Core.take, Core.row_len, abin, reduceIte, ne_eq, decide_not, Bool.not_true, Bool.not_false]; rfl) rfl ?_
  refine k_nil ?_
  refine k_seq ?_
  refine awp_cond rfl (fun hc => ?_) (fun hc => ?_)
  · refine awp_seq ?_
    refine awp_region ?_
    refine r_assign rfl (by conv => lhs; whnf) rfl ?_
    refine k_nil ?_
    refine k_seq ?_
    refine awp_ret ?_
    refine k_seq_ret ?_
    refine k_fin ?_
    refine ends_pure [] (by simp only [Try.results5, resOf, Core.take, Core.row_len, ev_tmp, ev_const, ev_func, upd_at, slots_cons, slots_nil, objs_cons, objs_nil, Nat.reduceLT, Nat.reduceEqDiff, Nat.reduceAdd, reduceIte, if_true, if_false, ofVal, ofS, noOb, reduceCtorEq]; rfl) (by skip; exact ⟨give_id _, trivial⟩) (by simp [V.idsL, V.ids])
  have hwt : T.wtL c.row ≤ 2 ^ 30 := by
    have h := of_decide_eq_false hc
    rcases Int.lt_or_le 1048576 (T.wtL c.row : Nat) with hh | hh
    · rw [szr_neg (by omega)] at h; omega
    · omega
  clear hc
  refine awp_skip ?_
  refine k_seq ?_
  refine awp_seq ?_
  refine awp_region ?_
  refine r_loadN rfl yA42c yS42c (by conv => lhs; whnf) (by conv => lhs; whnf) (by simp only [Core.take, Core.row_len, List.take_succ_cons, List.take_zero, List.drop_succ_cons, List.drop_zero, List.take_nil, List.drop_nil, List.nil_append, List.cons_append, List.append_nil, List.length_cons, List.length_nil, List.head?_cons, List.map_cons, List.map_nil, Nat.reduceAdd, Nat.zero_add, List.length_map]; omega) (by (try simp only [Core.take, Core.row_len, List.take_succ_cons, List.take_zero, List.drop_succ_cons, List.drop_zero, List.take_nil, List.drop_nil, List.nil_append, List.cons_append, List.append_nil, List.length_cons, List.length_nil, List.head?_cons, List.map_cons, List.map_nil, Nat.reduceAdd, Nat.zero_add, List.length_map]); rfl) rfl ?_
  refine r_pure [] rfl rfl rfl (by conv => lhs; whnf) (by simp only [Core.take, Core.row_len, ev_tmp, ev_const, ev_func, upd_at, slots_cons, slots_nil, objs_cons, objs_nil, Nat.reduceLT, Nat.reduceEqDiff, Nat.reduceAdd, reduceIte, if_true, if_false, ofVal, ofS, noOb, reduceCtorEq, List.take_succ_cons, List.take_zero, List.drop_succ_cons, List.drop_zero, List.take_nil, List.drop_nil, List.nil_append, List.cons_append, List.append_nil, List.length_cons, List.length_nil, List.head?_cons, List.map_cons, List.map_nil, Nat.reduceAdd, Nat.zero_add, List.length_map, List.toList_toArray]; rfl) (by simp only [Core.take, Core.row_len, fzU, ev_tmp, ev_const, ev_func, upd_at, slots_cons, slots_nil, objs_cons, objs_nil, Nat.reduceLT, Nat.reduceEqDiff, Nat.reduceAdd, reduceIte, if_true, if_false, ofVal, ofS, noOb, reduceCtorEq]; rfl) (by simp only [app]; rfl) (toCore_ok c hwt) (by exact ⟨(by first | exact pass_id rfl | exact pass_id (ids_row _) | exact .inr (.inl ⟨_, rfl, rfl, by simp [fz]⟩) | exact .inr (.inr ⟨_, _, rfl, rfl, rfl, by simp [fz]⟩)), trivial⟩) rfl ?_
  refine r_pure [] rfl rfl rfl (by conv => lhs; whnf) (by simp only [Core.take, Core.row_len, ev_tmp, ev_const, ev_func, upd_at, slots_cons, slots_nil, objs_cons, objs_nil, Nat.reduceLT, Nat.reduceEqDiff, Nat.reduceAdd, reduceIte, if_true, if_false, ofVal, ofS, noOb, reduceCtorEq, List.take_succ_cons, List.take_zero, List.drop_succ_cons, List.drop_zero, List.take_nil, List.drop_nil, List.nil_append, List.cons_append, List.append_nil, List.length_cons, List.length_nil, List.head?_cons, List.map_cons, List.map_nil, Nat.reduceAdd, Nat.zero_add, List.length_map, List.toList_toArray]; rfl) (by simp only [Core.take, Core.row_len, fzU, ev_tmp, ev_const, ev_func, upd_at, slots_cons, slots_nil, objs_cons, objs_nil, Nat.reduceLT, Nat.reduceEqDiff, Nat.reduceAdd, reduceIte, if_true, if_false, ofVal, ofS, noOb, reduceCtorEq]; rfl) (by simp only [app]; rfl) (specCoreSize_ok c hwt) (by exact ⟨(by first | exact pass_id rfl | exact pass_id (ids_row _) | exact .inr (.inl ⟨_, rfl, rfl, by simp [fz]⟩) | exact .inr (.inr ⟨_, _, rfl, rfl, rfl, by simp [fz]⟩)), trivial⟩) rfl ?_
  refine r_assign rfl (by conv => lhs; whnf) rfl ?_
  refine k_nil ?_
  refine k_seq ?_
  refine awp_seq ?_
  refine awp_region ?_
  refine r_loadN rfl yA42c yS42c (by conv => lhs; whnf) (by conv => lhs; whnf) (by simp only [Core.take, Core.row_len, List.take_succ_cons, List.take_zero, List.drop_succ_cons, List.drop_zero, List.take_nil, List.drop_nil, List.nil_append, List.cons_append, List.append_nil, List.length_cons, List.length_nil, List.head?_cons, List.map_cons, List.map_nil, Nat.reduceAdd, Nat.zero_add, List.length_map]; omega) (by (try simp only [Core.take, Core.row_len, List.take_succ_cons, List.take_zero, List.drop_succ_cons, List.drop_zero, List.take_nil, List.drop_nil, List.nil_append, List.cons_append, List.append_nil, List.length_cons, List.length_nil, List.head?_cons, List.map_cons, List.map_nil, Nat.reduceAdd, Nat.zero_add, List.length_map]); rfl) rfl ?_
  refine r_pure [] rfl rfl rfl (by conv => lhs; whnf) (by simp only [Core.take, Core.row_len, ev_tmp, ev_const, ev_func, upd_at, slots_cons, slots_nil, objs_cons, objs_nil, Nat.reduceLT, Nat.reduceEqDiff, Nat.reduceAdd, reduceIte, if_true, if_false, ofVal, ofS, noOb, reduceCtorEq, List.take_succ_cons, List.take_zero, List.drop_succ_cons, List.drop_zero, List.take_nil, List.drop_nil, List.nil_append, List.cons_append, List.append_nil, List.length_cons, List.length_nil, List.head?_cons, List.map_cons, List.map_nil, Nat.reduceAdd, Nat.zero_add, List.length_map, List.toList_toArray]; rfl) (by simp only [Core.take, Core.row_len, fzU, ev_tmp, ev_const, ev_func, upd_at, slots_cons, slots_nil, objs_cons, objs_nil, Nat.reduceLT, Nat.reduceEqDiff, Nat.reduceAdd, reduceIte, if_true, if_false, ofVal, ofS, noOb, reduceCtorEq]; rfl) (by simp only [app]; rfl) (toCore_ok c hwt) (by exact ⟨(by first | exact pass_id rfl | exact pass_id (ids_row _) | exact .inr (.inl ⟨_, rfl, rfl, by simp [fz]⟩) | exact .inr (.inr ⟨_, _, rfl, rfl, rfl, by simp [fz]⟩)), trivial⟩) rfl ?_
  refine r_alloc rfl yZ29c rfl rfl ?_
  refine r_storeB rfl (by conv => lhs; whnf) (by conv => lhs; whnf) (by conv => lhs; whnf) (by conv => lhs; whnf) (by first | rfl | simp only [Core.take, Core.row_len, oneAll_t]) (by rw [yS29c]; simp only [Core.take, Core.row_len, List.take_succ_cons, List.take_zero, List.drop_succ_cons, List.drop_zero, List.take_nil, List.drop_nil, List.nil_append, List.cons_append, List.append_nil, List.length_cons, List.length_nil, List.head?_cons, List.map_cons, List.map_nil, Nat.reduceAdd, Nat.zero_add, List.length_map]) (by simp only [Core.take, Core.row_len, List.take_succ_cons, List.take_zero, List.drop_succ_cons, List.drop_zero, List.take_nil, List.drop_nil, List.nil_append, List.cons_append, List.append_nil, List.length_cons, List.length_nil, List.head?_cons, List.map_cons, List.map_nil, Nat.reduceAdd, Nat.zero_add, List.length_map]; omega) (splice_all (by simp only [Core.take, Core.row_len, List.take_succ_cons, List.take_zero, List.drop_succ_cons, List.drop_zero, List.take_nil, List.drop_nil, List.nil_append, List.cons_append, List.append_nil, List.length_cons, List.length_nil, List.head?_cons, List.map_cons, List.map_nil, Nat.reduceAdd, Nat.zero_add, List.length_map]; omega)) rfl ?_
  refine k_nil ?_
  refine k_seq ?_
  refine awp_seq ?_
  refine awp_region ?_
  refine r_loadN rfl yA29c yS29c (by conv => lhs; whnf) (by conv => lhs; whnf) (by simp only [Core.take, Core.row_len, List.take_succ_cons, List.take_zero, List.drop_succ_cons, List.drop_zero, List.take_nil, List.drop_nil, List.nil_append, List.cons_append, List.append_nil, List.length_cons, List.length_nil, List.head?_cons, List.map_cons, List.map_nil, Nat.reduceAdd, Nat.zero_add, List.length_map]; omega) (by (try simp only [Core.take, Core.row_len, List.take_succ_cons, List.take_zero, List.drop_succ_cons, List.drop_zero, List.take_nil, List.drop_nil, List.nil_append, List.cons_append, List.append_nil, List.length_cons, List.length_nil, List.head?_cons, List.map_cons, List.map_nil, Nat.reduceAdd, Nat.zero_add, List.length_map]); rfl) rfl ?_
  refine r_pure [] rfl rfl rfl (by conv => lhs; whnf) (by simp only [Core.take, Core.row_len, ev_tmp, ev_const, ev_func, upd_at, slots_cons, slots_nil, objs_cons, objs_nil, Nat.reduceLT, Nat.reduceEqDiff, Nat.reduceAdd, reduceIte, if_true, if_false, ofVal, ofS, noOb, reduceCtorEq, List.take_succ_cons, List.take_zero, List.drop_succ_cons, List.drop_zero, List.take_nil, List.drop_nil, List.nil_append, List.cons_append, List.append_nil, List.length_cons, List.length_nil, List.head?_cons, List.map_cons, List.map_nil, Nat.reduceAdd, Nat.zero_add, List.length_map, List.toList_toArray]; rfl) (by simp only [Core.take, Core.row_len, fzU, ev_tmp, ev_const, ev_func, upd_at, slots_cons, slots_nil, objs_cons, objs_nil, Nat.reduceLT, Nat.reduceEqDiff, Nat.reduceAdd, reduceIte, if_true, if_false, ofVal, ofS, noOb, reduceCtorEq]; rfl) (by simp only [app]; rfl) (coreSize_ok c hwt) (by exact ⟨(by first | exact pass_id rfl | exact pass_id (ids_row _) | exact .inr (.inl ⟨_, rfl, rfl, by simp [fz]⟩) | exact .inr (.inr ⟨_, _, rfl, rfl, rfl, by simp [fz]⟩)), trivial⟩) rfl ?_
  refine r_assign rfl (by conv => lhs; whnf) rfl ?_
  refine k_nil ?_
  refine k_seq ?_
  refine awp_seq ?_
  refine awp_seq ?_
  refine awp_region ?_
  refine r_move rfl (by conv => lhs; whnf) rfl ?_
  refine r_move rfl (by conv => lhs; whnf) rfl ?_
  refine r_bin rfl (by conv => lhs; whnf) (by conv => lhs; whnf) (by simp only [Core.take, Core.row_len, abin, reduceIte, ne_eq, decide_not, Bool.not_true, Bool.not_false]; rfl) rfl ?_
  refine k_nil ?_
  refine k_seq ?_
  refine awp_cond rfl (fun hc => ?_) (fun hc => ?_)
  · exact absurd hc (by simp)
  clear hc
  refine awp_skip ?_
  refine k_seq ?_
  refine awp_seq ?_
  refine awp_seq ?_
  refine awp_draw yMixc (by kernel_rfl) ?_
  refine r_loadN rfl yA29c yS29c (by conv => lhs; whnf) (by conv => lhs; whnf) (by simp only [Core.take, Core.row_len, List.take_succ_cons, List.take_zero, List.drop_succ_cons, List.drop_zero, List.take_nil, List.drop_nil, List.nil_append, List.cons_append, List.append_nil, List.length_cons, List.length_nil, List.head?_cons, List.map_cons, List.map_nil, Nat.reduceAdd, Nat.zero_add, List.length_map]; omega) (by (try simp only [Core.take, Core.row_len, List.take_succ_cons, List.take_zero, List.drop_succ_cons, List.drop_zero, List.take_nil, List.drop_nil, List.nil_append, List.cons_append, List.append_nil, List.length_cons, List.length_nil, List.head?_cons, List.map_cons, List.map_nil, Nat.reduceAdd, Nat.zero_add, List.length_map]); rfl) (by simp only [fpOf, idOf, Option.getD_some, Option.getD_none, Op.operands, Call.operands, V.idsL, V.ids, idsL_t, List.append_nil, List.nil_append, List.cons_append, List.toList_toArray, List.map_toArray, List.size_toArray, List.append_toArray, ev_tmp, ev_const, ev_func, upd_at, slots_cons, slots_nil, objs_cons, objs_nil, Nat.reduceLT, Nat.reduceEqDiff, Nat.reduceAdd, reduceIte, if_true, if_false, ofVal, ofS, noOb, reduceCtorEq, List.take_succ_cons, List.take_zero, List.drop_succ_cons, List.drop_zero, List.take_nil, List.drop_nil, List.nil_append, List.cons_append, List.append_nil, List.length_cons, List.length_nil, List.head?_cons, List.map_cons, List.map_nil, Nat.reduceAdd, Nat.zero_add, List.length_map, Core.take, Core.row_len]; rfl) ?_
  refine r_loadN rfl yA42c yS42c (by conv => lhs; whnf) (by conv => lhs; whnf) (by simp only [Core.take, Core.row_len, List.take_succ_cons, List.take_zero, List.drop_succ_cons, List.drop_zero, List.take_nil, List.drop_nil, List.nil_append, List.cons_append, List.append_nil, List.length_cons, List.length_nil, List.head?_cons, List.map_cons, List.map_nil, Nat.reduceAdd, Nat.zero_add, List.length_map]; omega) (by (try simp only [Core.take, Core.row_len, List.take_succ_cons, List.take_zero, List.drop_succ_cons, List.drop_zero, List.take_nil, List.drop_nil, List.nil_append, List.cons_append, List.append_nil, List.length_cons, List.length_nil, List.head?_cons, List.map_cons, List.map_nil, Nat.reduceAdd, Nat.zero_add, List.length_map]); rfl) (by simp only [fpOf, idOf, Option.getD_some, Option.getD_none, Op.operands, Call.operands, V.idsL, V.ids, idsL_t, List.append_nil, List.nil_append, List.cons_append, List.toList_toArray, List.map_toArray, List.size_toArray, List.append_toArray, ev_tmp, ev_const, ev_func, upd_at, slots_cons, slots_nil, objs_cons, objs_nil, Nat.reduceLT, Nat.reduceEqDiff, Nat.reduceAdd, reduceIte, if_true, if_false, ofVal, ofS, noOb, reduceCtorEq, List.take_succ_cons, List.take_zero, List.drop_succ_cons, List.drop_zero, List.take_nil, List.drop_nil, List.nil_append, List.cons_append, List.append_nil, List.length_cons, List.length_nil, List.head?_cons, List.map_cons, List.map_nil, Nat.reduceAdd, Nat.zero_add, List.length_map, Core.take, Core.row_len]; rfl) ?_
  refine r_pure [] rfl rfl rfl (by conv => lhs; whnf) (by simp only [Core.take, Core.row_len, ev_tmp, ev_const, ev_func, upd_at, slots_cons, slots_nil, objs_cons, objs_nil, Nat.reduceLT, Nat.reduceEqDiff, Nat.reduceAdd, reduceIte, if_true, if_false, ofVal, ofS, noOb, reduceCtorEq, List.take_succ_cons, List.take_zero, List.drop_succ_cons, List.drop_zero, List.take_nil, List.drop_nil, List.nil_append, List.cons_append, List.append_nil, List.length_cons, List.length_nil, List.head?_cons, List.map_cons, List.map_nil, Nat.reduceAdd, Nat.zero_add, List.length_map, List.toList_toArray]; rfl) (by simp only [Core.take, Core.row_len, fzU, ev_tmp, ev_const, ev_func, upd_at, slots_cons, slots_nil, objs_cons, objs_nil, Nat.reduceLT, Nat.reduceEqDiff, Nat.reduceAdd, reduceIte, if_true, if_false, ofVal, ofS, noOb, reduceCtorEq]; rfl) (by simp only [app]; rfl) (toCore_ok c hwt) (by exact ⟨(by first | exact pass_id rfl | exact pass_id (ids_row _) | exact .inr (.inl ⟨_, rfl, rfl, by simp [fz]⟩) | exact .inr (.inr ⟨_, _, rfl, rfl, rfl, by simp [fz]⟩)), trivial⟩) (by simp only [fpOf, Op.operands, Call.operands, V.idsL, V.ids, idsL_t, List.append_nil, List.nil_append, List.cons_append, List.map_toArray, List.append_toArray, Core.take, Core.row_len, ev_tmp, ev_const, ev_func, upd_at, slots_cons, slots_nil, objs_cons, objs_nil, Nat.reduceLT, Nat.reduceEqDiff, Nat.reduceAdd, reduceIte, if_true, if_false, ofVal, ofS, noOb, reduceCtorEq, List.take_succ_cons, List.take_zero, List.drop_succ_cons, List.drop_zero, List.take_nil, List.drop_nil, List.nil_append, List.cons_append, List.append_nil, List.length_cons, List.length_nil, List.head?_cons, List.map_cons, List.map_nil, Nat.reduceAdd, Nat.zero_add, List.length_map]; rfl) ?_
  refine r_pure [] rfl rfl rfl (by conv => lhs; whnf) (by simp only [Core.take, Core.row_len, ev_tmp, ev_const, ev_func, upd_at, slots_cons, slots_nil, objs_cons, objs_nil, Nat.reduceLT, Nat.reduceEqDiff, Nat.reduceAdd, reduceIte, if_true, if_false, ofVal, ofS, noOb, reduceCtorEq, List.take_succ_cons, List.take_zero, List.drop_succ_cons, List.drop_zero, List.take_nil, List.drop_nil, List.nil_append, List.cons_append, List.append_nil, List.length_cons, List.length_nil, List.head?_cons, List.map_cons, List.map_nil, Nat.reduceAdd, Nat.zero_add, List.length_map, List.toList_toArray]; rfl) (by simp only [Core.take, Core.row_len, fzU, ev_tmp, ev_const, ev_func, upd_at, slots_cons, slots_nil, objs_cons, objs_nil, Nat.reduceLT, Nat.reduceEqDiff, Nat.reduceAdd, reduceIte, if_true, if_false, ofVal, ofS, noOb, reduceCtorEq]; rfl) (by simp only [app]; rfl) (eqCore_ok c hwt) (by exact ⟨(by first | exact pass_id rfl | exact pass_id (ids_row _) | exact .inr (.inl ⟨_, rfl, rfl, by simp [fz]⟩) | exact .inr (.inr ⟨_, _, rfl, rfl, rfl, by simp [fz]⟩)), (by first | exact pass_id rfl | exact pass_id (ids_row _) | exact .inr (.inl ⟨_, rfl, rfl, by simp [fz]⟩) | exact .inr (.inr ⟨_, _, rfl, rfl, rfl, by simp [fz]⟩)), trivial⟩) (by simp only [fpOf, Op.operands, Call.operands, V.idsL, V.ids, idsL_t, List.append_nil, List.nil_append, List.cons_append, List.map_toArray, List.append_toArray, Core.take, Core.row_len, ev_tmp, ev_const, ev_func, upd_at, slots_cons, slots_nil, objs_cons, objs_nil, Nat.reduceLT, Nat.reduceEqDiff, Nat.reduceAdd, reduceIte, if_true, if_false, ofVal, ofS, noOb, reduceCtorEq, List.take_succ_cons, List.take_zero, List.drop_succ_cons, List.drop_zero, List.take_nil, List.drop_nil, List.nil_append, List.cons_append, List.append_nil, List.length_cons, List.length_nil, List.head?_cons, List.map_cons, List.map_nil, Nat.reduceAdd, Nat.zero_add, List.length_map]; rfl) ?_
  refine r_un rfl (by conv => lhs; whnf) (by conv => lhs; whnf) (by simp only [fpOf, idOf, Option.getD_some, Option.getD_none, Op.operands, Call.operands, V.idsL, V.ids, idsL_t, List.append_nil, List.nil_append, List.cons_append, List.toList_toArray, List.map_toArray, List.size_toArray, List.append_toArray, ev_tmp, ev_const, ev_func, upd_at, slots_cons, slots_nil, objs_cons, objs_nil, Nat.reduceLT, Nat.reduceEqDiff, Nat.reduceAdd, reduceIte, if_true, if_false, ofVal, ofS, noOb, reduceCtorEq, List.take_succ_cons, List.take_zero, List.drop_succ_cons, List.drop_zero, List.take_nil, List.drop_nil, List.nil_append, List.cons_append, List.append_nil, List.length_cons, List.length_nil, List.head?_cons, List.map_cons, List.map_nil, Nat.reduceAdd, Nat.zero_add, List.length_map, Core.take, Core.row_len]; rfl) ?_
  refine k_nilD (by simp only [List.reverse_cons, List.reverse_nil, List.nil_append, List.cons_append]; kernel_rfl) ?_
  refine k_seq ?_
  refine awp_cond rfl (fun hc => ?_) (fun hc => ?_)
  · exact absurd hc (by simp)
  clear hc
  refine awp_skip ?_
  refine k_seq ?_
  refine awp_seq ?_
  refine awp_region ?_
  refine r_assign rfl (by conv => lhs; whnf) rfl ?_
  refine k_nil ?_
  refine k_seq ?_
  refine awp_ret ?_
  refine k_fin ?_
  refine ends_pure [] (by simp only [Try.results5, resOf, Core.take, Core.row_len, ev_tmp, ev_const, ev_func, upd_at, slots_cons, slots_nil, objs_cons, objs_nil, Nat.reduceLT, Nat.reduceEqDiff, Nat.reduceAdd, reduceIte, if_true, if_false, ofVal, ofS, noOb, reduceCtorEq]; rfl) (by skip; exact ⟨give_id _, trivial⟩) (by simp [V.idsL, V.ids])
end Go.Abs
