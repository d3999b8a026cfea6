/- A part of the proof: contracts of the functions that the law calls, on pure values. -/
import Derived.Test.YtpkelhmjemcogaaAbsV
import Derived.Test.YtpkelhmjemcogaaAbsT2
set_option linter.unusedSimpArgs false
set_option maxHeartbeats 4000000
set_option linter.unusedVariables false
namespace Go.Abs
open Go.Proofs
theorem yU23d : Try.prog.underlying 23 = some (.slice 3) := by kernel_rfl
theorem yMixd : Try.prog.follows .mixedOrders = true := by kernel_rfl
theorem yE23d : elOf Try.prog 23 = some (3, 1) := by kernel_rfl
theorem yA3d : aggOf Try.prog 3 = some false := by kernel_rfl
theorem yU24d : Try.prog.underlying 24 = some (.slice 26) := by kernel_rfl
theorem yE24d : elOf Try.prog 24 = some (26, 5) := by kernel_rfl
theorem yA26d : aggOf Try.prog 26 = some true := by kernel_rfl
theorem yS26d : szOf Try.prog 26 = some 5 := by kernel_rfl
theorem yZ26d : zcells Try.prog 26 = some [.t (.sc (.int .i64 0)), .t (.sc (.str ⟨#[]⟩)), .t (.sc (.int .i64 0)), .nl, .nl] := by kernel_rfl
theorem yU27d : Try.prog.underlying 27 = some (.slice 29) := by kernel_rfl
theorem yE27d : elOf Try.prog 27 = some (29, 11) := by kernel_rfl
theorem yA29d : aggOf Try.prog 29 = some true := by kernel_rfl
theorem yS29d : szOf Try.prog 29 = some 11 := by kernel_rfl
theorem yZ29d : zcells Try.prog 29 = some [.t (.sc (.int .i64 0)), .t (.sc (.int .i64 0)), .t (.sc (.str ⟨#[]⟩)), .t (.sc (.int .i64 0)), .nl, .t (.sc (.int .i64 0)), .t (.sc (.str ⟨#[]⟩)), .t (.sc (.int .i64 0)), .nl, .nl, .nl] := by kernel_rfl
theorem yF26_0d : fldOf Try.prog 26 0 = some (0, 3) := by kernel_rfl
theorem yF26_1d : fldOf Try.prog 26 1 = some (1, 9) := by kernel_rfl
theorem yA9d : aggOf Try.prog 9 = some false := by kernel_rfl
theorem yF26_2d : fldOf Try.prog 26 2 = some (2, 3) := by kernel_rfl
theorem yF26_3d : fldOf Try.prog 26 3 = some (3, 23) := by kernel_rfl
theorem yA23d : aggOf Try.prog 23 = some false := by kernel_rfl
theorem yF26_4d : fldOf Try.prog 26 4 = some (4, 24) := by kernel_rfl
theorem yA24d : aggOf Try.prog 24 = some false := by kernel_rfl
theorem yF29_0d : fldOf Try.prog 29 0 = some (0, 3) := by kernel_rfl
theorem yF29_1d : fldOf Try.prog 29 1 = some (1, 3) := by kernel_rfl
theorem yF29_2d : fldOf Try.prog 29 2 = some (2, 9) := by kernel_rfl
theorem yF29_3d : fldOf Try.prog 29 3 = some (3, 3) := by kernel_rfl
theorem yF29_4d : fldOf Try.prog 29 4 = some (4, 23) := by kernel_rfl
theorem yF29_5d : fldOf Try.prog 29 5 = some (5, 26) := by kernel_rfl
theorem yF29_6d : fldOf Try.prog 29 6 = some (10, 27) := by kernel_rfl
theorem yA27d : aggOf Try.prog 27 = some false := by kernel_rfl
theorem equalInts_ok (l r : List Int) (hl : l.length ≤ 2 ^ 62) (hr : r.length ≤ 2 ^ 62) : AC Try.prog 46 [.t (.sl (l.map (fun n => [ti n]))), .t (.sl (r.map (fun n => [ti n])))] noOb (vb (eqb l r)) noOb := by
  refine AC_intro (rs := [_]) Try.func46 rfl (by kernel_rfl) (by simp [Try.ntmps46]) (by simp [noOb]) ?_
  intro C hC
  rw [Try.ntmps46]
  refine awp_seq ?_
  refine awp_region ?_
  refine r_assign rfl (by conv => lhs; whnf) rfl ?_
  refine k_nil ?_
  refine k_seq ?_
  refine awp_seq ?_
  refine awp_seq ?_
  refine awp_region ?_
  refine r_move rfl (by conv => lhs; whnf) rfl ?_
  refine r_len rfl yU23d (by conv => lhs; whnf) (by conv => lhs; whnf) rfl ?_
  refine r_move rfl (by conv => lhs; whnf) rfl ?_
  refine r_len rfl yU23d (by conv => lhs; whnf) (by conv => lhs; whnf) rfl ?_
  refine r_bin rfl (by conv => lhs; whnf) (by conv => lhs; whnf) (by simp only [List.length_map, abin, reduceIte, ne_eq, decide_not, Bool.not_true, Bool.not_false]; rfl) rfl ?_
  refine k_nil ?_
  refine k_seq ?_
  refine awp_cond rfl (fun hc => ?_) (fun hc => ?_)
  · have hne : eqb l r = false := (eqb_not _ _).2 (fun e => by subst e; simp at hc)
    refine awp_seq ?_
    refine awp_region ?_
    refine r_assign rfl (by conv => lhs; whnf) rfl ?_
    refine k_nil ?_
    refine k_seq ?_
    refine awp_ret ?_
    refine k_seq_ret ?_
    refine k_fin ?_
    refine ends_pure [] (by simp only [Try.results46, resOf, List.length_map, ev_tmp, ev_const, ev_func, upd_at, slots_cons, slots_nil, objs_cons, objs_nil, Nat.reduceLT, Nat.reduceEqDiff, Nat.reduceAdd, reduceIte, if_true, if_false, ofVal, ofS, noOb, reduceCtorEq]; rfl) (by rw [hne]; exact ⟨give_id _, trivial⟩) (by simp [V.idsL, V.ids])
  · have hlen : l.length = r.length := by simp at hc; omega
    clear hc
    refine awp_skip ?_
    refine k_seq ?_
    refine awp_seq ?_
    refine awp_seq ?_
    refine awp_region ?_
    refine r_move rfl (by conv => lhs; whnf) rfl ?_
    refine r_len rfl yU23d (by conv => lhs; whnf) (by conv => lhs; whnf) rfl ?_
    refine r_move rfl (by conv => lhs; whnf) rfl ?_
    refine k_nil ?_
    refine k_seq ?_
    refine awp_block ?_
    refine awp_frame [4, 5, 13, 14, 15, 16, 17, 18, 19, 20, 21, 22, 23, 24, 25] [] [] (fun j : Nat => l.length - j) (fun j : Nat => [(13, vi j)]) (fun j : Nat => []) (fun j => j ≤ l.length ∧ l.take j = r.take j) 0 ⟨Nat.zero_le _, by simp⟩ (by rfl) (by rfl) (fun _ => rfl) (hasF_cons (by conv => lhs; whnf) (by first | rfl | simp) (by first | rfl | simp [V.ids, V.idsL, idsL_t, Ob.ids]) trivial) trivial ?_
    · rintro j ⟨hj, htk⟩
      refine awp_seq ?_
      refine awp_region ?_
      refine r_bin rfl (by conv => lhs; whnf) (by conv => lhs; whnf) (by simp only [List.length_map, abin, reduceIte, ne_eq, decide_not, Bool.not_true, Bool.not_false]; rfl) rfl ?_
      refine k_nil ?_
      refine k_seq ?_
      refine awp_seq ?_
      refine awp_cond rfl (fun hc => ?_) (fun hc => ?_)
      · have hlt : j < l.length := by have := of_decide_eq_true hc; omega
        have hlt2 : j < r.length := by omega
        have hgl := map_get (fun n => [ti n]) l j hlt
        have hgr := map_get (fun n => [ti n]) r j hlt2
        have hw1 := IntWalk.i64_in ((j : Int) + 1) (by omega)
        clear hc
        refine awp_skip ?_
        refine k_seq ?_
        refine awp_seq ?_
        refine awp_block ?_
        refine awp_seq ?_
        refine awp_region ?_
        refine r_move rfl (by conv => lhs; whnf) rfl ?_
        refine r_assign rfl (by conv => lhs; whnf) rfl ?_
        refine k_nil ?_
        refine k_seq ?_
        refine awp_seq ?_
        refine awp_draw yMixd (by kernel_rfl) ?_
        refine r_move rfl (by conv => lhs; whnf) (by simp only [fpOf, idOf, Option.getD_some, Option.getD_none, Op.operands, Call.operands, V.idsL, V.ids, idsL_t, List.append_nil, List.nil_append, List.cons_append, List.toList_toArray, List.map_toArray, List.size_toArray, List.append_toArray, ev_tmp, ev_const, ev_func, upd_at, slots_cons, slots_nil, objs_cons, objs_nil, Nat.reduceLT, Nat.reduceEqDiff, Nat.reduceAdd, reduceIte, if_true, if_false, ofVal, ofS, noOb, reduceCtorEq, List.take_succ_cons, List.take_zero, List.drop_succ_cons, List.drop_zero, List.take_nil, List.drop_nil, List.nil_append, List.cons_append, List.append_nil, List.length_cons, List.length_nil, List.head?_cons, List.map_cons, List.map_nil, Nat.reduceAdd, Nat.zero_add, List.length_map, hgl, hgr, List.length_map, List.length_cons, List.length_nil]; rfl) ?_
        refine r_move rfl (by conv => lhs; whnf) (by simp only [fpOf, idOf, Option.getD_some, Option.getD_none, Op.operands, Call.operands, V.idsL, V.ids, idsL_t, List.append_nil, List.nil_append, List.cons_append, List.toList_toArray, List.map_toArray, List.size_toArray, List.append_toArray, ev_tmp, ev_const, ev_func, upd_at, slots_cons, slots_nil, objs_cons, objs_nil, Nat.reduceLT, Nat.reduceEqDiff, Nat.reduceAdd, reduceIte, if_true, if_false, ofVal, ofS, noOb, reduceCtorEq, List.take_succ_cons, List.take_zero, List.drop_succ_cons, List.drop_zero, List.take_nil, List.drop_nil, List.nil_append, List.cons_append, List.append_nil, List.length_cons, List.length_nil, List.head?_cons, List.map_cons, List.map_nil, Nat.reduceAdd, Nat.zero_add, List.length_map, hgl, hgr, List.length_map, List.length_cons, List.length_nil]; rfl) ?_
        refine r_indexAddr rfl yE23d (by conv => lhs; whnf) (by conv => lhs; whnf) (by omega) (by simp only [hgl, hgr, List.length_map, List.length_cons, List.length_nil, indexP, ev_tmp, ev_const, ev_func, upd_at, slots_cons, slots_nil, objs_cons, objs_nil, Nat.reduceLT, Nat.reduceEqDiff, Nat.reduceAdd, reduceIte, if_true, if_false, ofVal, ofS, noOb, reduceCtorEq]; rfl) (by simp only [fpOf, idOf, Option.getD_some, Option.getD_none, Op.operands, Call.operands, V.idsL, V.ids, idsL_t, List.append_nil, List.nil_append, List.cons_append, List.toList_toArray, List.map_toArray, List.size_toArray, List.append_toArray, ev_tmp, ev_const, ev_func, upd_at, slots_cons, slots_nil, objs_cons, objs_nil, Nat.reduceLT, Nat.reduceEqDiff, Nat.reduceAdd, reduceIte, if_true, if_false, ofVal, ofS, noOb, reduceCtorEq, List.take_succ_cons, List.take_zero, List.drop_succ_cons, List.drop_zero, List.take_nil, List.drop_nil, List.nil_append, List.cons_append, List.append_nil, List.length_cons, List.length_nil, List.head?_cons, List.map_cons, List.map_nil, Nat.reduceAdd, Nat.zero_add, List.length_map, hgl, hgr, List.length_map, List.length_cons, List.length_nil]; rfl) ?_
        refine r_load1 rfl yA3d (by conv => lhs; whnf) (by conv => lhs; whnf) (by (try simp only [hgl, hgr, List.length_map, List.length_cons, List.length_nil, List.take_succ_cons, List.take_zero, List.drop_succ_cons, List.drop_zero, List.take_nil, List.drop_nil, List.nil_append, List.cons_append, List.append_nil, List.length_cons, List.length_nil, List.head?_cons, List.map_cons, List.map_nil, Nat.reduceAdd, Nat.zero_add, List.length_map]); rfl) (by simp only [fpOf, idOf, Option.getD_some, Option.getD_none, Op.operands, Call.operands, V.idsL, V.ids, idsL_t, List.append_nil, List.nil_append, List.cons_append, List.toList_toArray, List.map_toArray, List.size_toArray, List.append_toArray, ev_tmp, ev_const, ev_func, upd_at, slots_cons, slots_nil, objs_cons, objs_nil, Nat.reduceLT, Nat.reduceEqDiff, Nat.reduceAdd, reduceIte, if_true, if_false, ofVal, ofS, noOb, reduceCtorEq, List.take_succ_cons, List.take_zero, List.drop_succ_cons, List.drop_zero, List.take_nil, List.drop_nil, List.nil_append, List.cons_append, List.append_nil, List.length_cons, List.length_nil, List.head?_cons, List.map_cons, List.map_nil, Nat.reduceAdd, Nat.zero_add, List.length_map, hgl, hgr, List.length_map, List.length_cons, List.length_nil]; rfl) ?_
        refine r_move rfl (by conv => lhs; whnf) (by simp only [fpOf, idOf, Option.getD_some, Option.getD_none, Op.operands, Call.operands, V.idsL, V.ids, idsL_t, List.append_nil, List.nil_append, List.cons_append, List.toList_toArray, List.map_toArray, List.size_toArray, List.append_toArray, ev_tmp, ev_const, ev_func, upd_at, slots_cons, slots_nil, objs_cons, objs_nil, Nat.reduceLT, Nat.reduceEqDiff, Nat.reduceAdd, reduceIte, if_true, if_false, ofVal, ofS, noOb, reduceCtorEq, List.take_succ_cons, List.take_zero, List.drop_succ_cons, List.drop_zero, List.take_nil, List.drop_nil, List.nil_append, List.cons_append, List.append_nil, List.length_cons, List.length_nil, List.head?_cons, List.map_cons, List.map_nil, Nat.reduceAdd, Nat.zero_add, List.length_map, hgl, hgr, List.length_map, List.length_cons, List.length_nil]; rfl) ?_
        refine r_move rfl (by conv => lhs; whnf) (by simp only [fpOf, idOf, Option.getD_some, Option.getD_none, Op.operands, Call.operands, V.idsL, V.ids, idsL_t, List.append_nil, List.nil_append, List.cons_append, List.toList_toArray, List.map_toArray, List.size_toArray, List.append_toArray, ev_tmp, ev_const, ev_func, upd_at, slots_cons, slots_nil, objs_cons, objs_nil, Nat.reduceLT, Nat.reduceEqDiff, Nat.reduceAdd, reduceIte, if_true, if_false, ofVal, ofS, noOb, reduceCtorEq, List.take_succ_cons, List.take_zero, List.drop_succ_cons, List.drop_zero, List.take_nil, List.drop_nil, List.nil_append, List.cons_append, List.append_nil, List.length_cons, List.length_nil, List.head?_cons, List.map_cons, List.map_nil, Nat.reduceAdd, Nat.zero_add, List.length_map, hgl, hgr, List.length_map, List.length_cons, List.length_nil]; rfl) ?_
        refine r_indexAddr rfl yE23d (by conv => lhs; whnf) (by conv => lhs; whnf) (by omega) (by simp only [hgl, hgr, List.length_map, List.length_cons, List.length_nil, indexP, ev_tmp, ev_const, ev_func, upd_at, slots_cons, slots_nil, objs_cons, objs_nil, Nat.reduceLT, Nat.reduceEqDiff, Nat.reduceAdd, reduceIte, if_true, if_false, ofVal, ofS, noOb, reduceCtorEq]; rfl) (by simp only [fpOf, idOf, Option.getD_some, Option.getD_none, Op.operands, Call.operands, V.idsL, V.ids, idsL_t, List.append_nil, List.nil_append, List.cons_append, List.toList_toArray, List.map_toArray, List.size_toArray, List.append_toArray, ev_tmp, ev_const, ev_func, upd_at, slots_cons, slots_nil, objs_cons, objs_nil, Nat.reduceLT, Nat.reduceEqDiff, Nat.reduceAdd, reduceIte, if_true, if_false, ofVal, ofS, noOb, reduceCtorEq, List.take_succ_cons, List.take_zero, List.drop_succ_cons, List.drop_zero, List.take_nil, List.drop_nil, List.nil_append, List.cons_append, List.append_nil, List.length_cons, List.length_nil, List.head?_cons, List.map_cons, List.map_nil, Nat.reduceAdd, Nat.zero_add, List.length_map, hgl, hgr, List.length_map, List.length_cons, List.length_nil]; rfl) ?_
        refine r_load1 rfl yA3d (by conv => lhs; whnf) (by conv => lhs; whnf) (by (try simp only [hgl, hgr, List.length_map, List.length_cons, List.length_nil, List.take_succ_cons, List.take_zero, List.drop_succ_cons, List.drop_zero, List.take_nil, List.drop_nil, List.nil_append, List.cons_append, List.append_nil, List.length_cons, List.length_nil, List.head?_cons, List.map_cons, List.map_nil, Nat.reduceAdd, Nat.zero_add, List.length_map]); rfl) (by simp only [fpOf, idOf, Option.getD_some, Option.getD_none, Op.operands, Call.operands, V.idsL, V.ids, idsL_t, List.append_nil, List.nil_append, List.cons_append, List.toList_toArray, List.map_toArray, List.size_toArray, List.append_toArray, ev_tmp, ev_const, ev_func, upd_at, slots_cons, slots_nil, objs_cons, objs_nil, Nat.reduceLT, Nat.reduceEqDiff, Nat.reduceAdd, reduceIte, if_true, if_false, ofVal, ofS, noOb, reduceCtorEq, List.take_succ_cons, List.take_zero, List.drop_succ_cons, List.drop_zero, List.take_nil, List.drop_nil, List.nil_append, List.cons_append, List.append_nil, List.length_cons, List.length_nil, List.head?_cons, List.map_cons, List.map_nil, Nat.reduceAdd, Nat.zero_add, List.length_map, hgl, hgr, List.length_map, List.length_cons, List.length_nil]; rfl) ?_
        refine r_bin rfl (by conv => lhs; whnf) (by conv => lhs; whnf) (by simp only [hgl, hgr, List.length_map, List.length_cons, List.length_nil, abin, reduceIte, ne_eq, decide_not, Bool.not_true, Bool.not_false]; rfl) (by simp only [fpOf, idOf, Option.getD_some, Option.getD_none, Op.operands, Call.operands, V.idsL, V.ids, idsL_t, List.append_nil, List.nil_append, List.cons_append, List.toList_toArray, List.map_toArray, List.size_toArray, List.append_toArray, ev_tmp, ev_const, ev_func, upd_at, slots_cons, slots_nil, objs_cons, objs_nil, Nat.reduceLT, Nat.reduceEqDiff, Nat.reduceAdd, reduceIte, if_true, if_false, ofVal, ofS, noOb, reduceCtorEq, List.take_succ_cons, List.take_zero, List.drop_succ_cons, List.drop_zero, List.take_nil, List.drop_nil, List.nil_append, List.cons_append, List.append_nil, List.length_cons, List.length_nil, List.head?_cons, List.map_cons, List.map_nil, Nat.reduceAdd, Nat.zero_add, List.length_map, hgl, hgr, List.length_map, List.length_cons, List.length_nil]; rfl) ?_
        refine k_nilD (by simp only [List.reverse_cons, List.reverse_nil, List.nil_append, List.cons_append]; kernel_rfl) ?_
        refine k_seq ?_
        refine awp_cond rfl (fun hc => ?_) (fun hc => ?_)
        · have hne : eqb l r = false := (eqb_not _ _).2 (fun e => by subst e; simp [eqb] at hc)
          refine awp_seq ?_
          refine awp_region ?_
          refine r_assign rfl (by conv => lhs; whnf) rfl ?_
          refine k_nil ?_
          refine k_seq ?_
          refine awp_ret ?_
          refine k_blk_ret ?_
          refine k_seq_ret ?_
          refine k_rnd_ret ?_
          refine k_blk_ret ?_
          refine k_seq_ret ?_
          refine k_fin ?_
          refine ends_pure [] (by simp only [Try.results46, resOf, hgl, hgr, List.length_map, List.length_cons, List.length_nil, ev_tmp, ev_const, ev_func, upd_at, slots_cons, slots_nil, objs_cons, objs_nil, Nat.reduceLT, Nat.reduceEqDiff, Nat.reduceAdd, reduceIte, if_true, if_false, ofVal, ofS, noOb, reduceCtorEq]; rfl) (by rw [hne]; exact ⟨give_id _, trivial⟩) (by simp [V.idsL, V.ids])
        · have he : l[j] = r[j] := by simpa [eqb] using hc
          refine awp_skip ?_
          refine k_blk ?_
          refine k_seq ?_
          refine awp_region ?_
          refine r_bin rfl (by conv => lhs; whnf) (by conv => lhs; whnf) (by simp only [hgl, hgr, List.length_map, List.length_cons, List.length_nil, abin, reduceIte, ne_eq, decide_not, Bool.not_true, Bool.not_false]; rfl) rfl ?_
          refine r_move rfl (by conv => lhs; whnf) rfl ?_
          refine k_nil ?_
          refine k_rnd (j + 1) ⟨hlt, by rw [List.take_succ_eq_append_getElem hlt, List.take_succ_eq_append_getElem hlt2, htk, he]⟩ (by show l.length - (j + 1) < l.length - j; omega) (by repeat (first | exact off_frame _ _ _ | exact off_refl _ _ | refine off_upd rfl ?_ | refine off_sub rfl ?_)) (by repeat (first | exact off_frame _ _ _ | exact off_refl _ _ | refine off_upd rfl ?_ | refine off_sub rfl ?_)) (hasF_cons (by conv => lhs; whnf) (by rw [hw1]; push_cast; rfl) (by first | rfl | simp [V.ids, V.idsL, idsL_t, Ob.ids]) trivial) trivial
      · have hje : j = l.length := by have := of_decide_eq_false hc; omega
        have he : eqb l r = true := (eqb_iff _ _).2 (by rw [hje, List.take_length, hlen, List.take_length] at htk; exact htk)
        refine awp_exit ?_
        refine k_seq_exit ?_
        refine k_rnd_exit ?_
        refine k_blk_exit ?_
        refine k_seq ?_
        refine awp_seq ?_
        refine awp_region ?_
        refine r_assign rfl (by conv => lhs; whnf) rfl ?_
        refine k_nil ?_
        refine k_seq ?_
        refine awp_ret ?_
        refine k_fin ?_
        refine ends_pure [] (by simp only [Try.results46, resOf, List.length_map, ev_tmp, ev_const, ev_func, upd_at, slots_cons, slots_nil, objs_cons, objs_nil, Nat.reduceLT, Nat.reduceEqDiff, Nat.reduceAdd, reduceIte, if_true, if_false, ofVal, ofS, noOb, reduceCtorEq]; rfl) (by rw [he]; exact ⟨give_id _, trivial⟩) (by simp [V.idsL, V.ids])
theorem l1Ints_ok (l r : List Int) (hl : l.length ≤ 2 ^ 62) (hr : r.length ≤ 2 ^ 62) : AC Try.prog 33 [.t (.sl (l.map (fun n => [ti n]))), .t (.sl (r.map (fun n => [ti n])))] noOb (vb (eqb l r)) noOb := by
  refine AC_intro (rs := [_]) Try.func33 rfl (by kernel_rfl) (by simp [Try.ntmps33]) (by simp [noOb]) ?_
  intro C hC
  rw [Try.ntmps33]
  refine awp_seq ?_
  refine awp_region ?_
  refine r_assign rfl (by conv => lhs; whnf) rfl ?_
  refine k_nil ?_
  refine k_seq ?_
  refine awp_seq ?_
  refine awp_seq ?_
  refine awp_region ?_
  refine r_move rfl (by conv => lhs; whnf) rfl ?_
  refine r_len rfl yU23d (by conv => lhs; whnf) (by conv => lhs; whnf) rfl ?_
  refine r_move rfl (by conv => lhs; whnf) rfl ?_
  refine r_len rfl yU23d (by conv => lhs; whnf) (by conv => lhs; whnf) rfl ?_
  refine r_bin rfl (by conv => lhs; whnf) (by conv => lhs; whnf) (by simp only [List.length_map, abin, reduceIte, ne_eq, decide_not, Bool.not_true, Bool.not_false]; rfl) rfl ?_
  refine k_nil ?_
  refine k_seq ?_
  refine awp_cond rfl (fun hc => ?_) (fun hc => ?_)
  · have hne : eqb l r = false := (eqb_not _ _).2 (fun e => by subst e; simp at hc)
    refine awp_seq ?_
    refine awp_region ?_
    refine r_assign rfl (by conv => lhs; whnf) rfl ?_
    refine k_nil ?_
    refine k_seq ?_
    refine awp_ret ?_
    refine k_seq_ret ?_
    refine k_fin ?_
    refine ends_pure [] (by simp only [Try.results33, resOf, List.length_map, ev_tmp, ev_const, ev_func, upd_at, slots_cons, slots_nil, objs_cons, objs_nil, Nat.reduceLT, Nat.reduceEqDiff, Nat.reduceAdd, reduceIte, if_true, if_false, ofVal, ofS, noOb, reduceCtorEq]; rfl) (by rw [hne]; exact ⟨give_id _, trivial⟩) (by simp [V.idsL, V.ids])
  · have hlen : l.length = r.length := by simp at hc; omega
    clear hc
    refine awp_skip ?_
    refine k_seq ?_
    refine awp_seq ?_
    refine awp_seq ?_
    refine awp_region ?_
    refine r_assign rfl (by conv => lhs; whnf) rfl ?_
    refine k_nil ?_
    refine k_seq ?_
    refine awp_block ?_
    refine awp_frame [4, 5, 11, 12, 13, 14, 15, 16, 17, 18, 19, 20, 21, 22, 23, 24, 25] [] [] (fun j : Nat => l.length - j) (fun j : Nat => [(5, vi j)]) (fun j : Nat => []) (fun j => j ≤ l.length ∧ l.take j = r.take j) 0 ⟨Nat.zero_le _, by simp⟩ (by rfl) (by rfl) (fun _ => rfl) (hasF_cons (by conv => lhs; whnf) (by first | rfl | simp) (by first | rfl | simp [V.ids, V.idsL, idsL_t, Ob.ids]) trivial) trivial ?_
    · rintro j ⟨hj, htk⟩
      refine awp_seq ?_
      refine awp_seq ?_
      refine awp_region ?_
      refine r_move rfl (by conv => lhs; whnf) rfl ?_
      refine r_move rfl (by conv => lhs; whnf) rfl ?_
      refine r_len rfl yU23d (by conv => lhs; whnf) (by conv => lhs; whnf) rfl ?_
      refine r_bin rfl (by conv => lhs; whnf) (by conv => lhs; whnf) (by simp only [List.length_map, abin, reduceIte, ne_eq, decide_not, Bool.not_true, Bool.not_false]; rfl) rfl ?_
      refine k_nil ?_
      refine k_seq ?_
      refine awp_cond rfl (fun hc => ?_) (fun hc => ?_)
      · have hlt : j < l.length := by have := of_decide_eq_true hc; omega
        have hlt2 : j < r.length := by omega
        have hgl := map_get (fun n => [ti n]) l j hlt
        have hgr := map_get (fun n => [ti n]) r j hlt2
        have hw1 := IntWalk.i64_in ((j : Int) + 1) (by omega)
        clear hc
        refine awp_skip ?_
        refine k_seq ?_
        refine awp_seq ?_
        refine awp_block ?_
        refine awp_seq ?_
        refine awp_draw yMixd (by kernel_rfl) ?_
        refine r_move rfl (by conv => lhs; whnf) (by simp only [fpOf, idOf, Option.getD_some, Option.getD_none, Op.operands, Call.operands, V.idsL, V.ids, idsL_t, List.append_nil, List.nil_append, List.cons_append, List.toList_toArray, List.map_toArray, List.size_toArray, List.append_toArray, ev_tmp, ev_const, ev_func, upd_at, slots_cons, slots_nil, objs_cons, objs_nil, Nat.reduceLT, Nat.reduceEqDiff, Nat.reduceAdd, reduceIte, if_true, if_false, ofVal, ofS, noOb, reduceCtorEq, List.take_succ_cons, List.take_zero, List.drop_succ_cons, List.drop_zero, List.take_nil, List.drop_nil, List.nil_append, List.cons_append, List.append_nil, List.length_cons, List.length_nil, List.head?_cons, List.map_cons, List.map_nil, Nat.reduceAdd, Nat.zero_add, List.length_map, hgl, hgr, List.length_map, List.length_cons, List.length_nil]; rfl) ?_
        refine r_move rfl (by conv => lhs; whnf) (by simp only [fpOf, idOf, Option.getD_some, Option.getD_none, Op.operands, Call.operands, V.idsL, V.ids, idsL_t, List.append_nil, List.nil_append, List.cons_append, List.toList_toArray, List.map_toArray, List.size_toArray, List.append_toArray, ev_tmp, ev_const, ev_func, upd_at, slots_cons, slots_nil, objs_cons, objs_nil, Nat.reduceLT, Nat.reduceEqDiff, Nat.reduceAdd, reduceIte, if_true, if_false, ofVal, ofS, noOb, reduceCtorEq, List.take_succ_cons, List.take_zero, List.drop_succ_cons, List.drop_zero, List.take_nil, List.drop_nil, List.nil_append, List.cons_append, List.append_nil, List.length_cons, List.length_nil, List.head?_cons, List.map_cons, List.map_nil, Nat.reduceAdd, Nat.zero_add, List.length_map, hgl, hgr, List.length_map, List.length_cons, List.length_nil]; rfl) ?_
        refine r_indexAddr rfl yE23d (by conv => lhs; whnf) (by conv => lhs; whnf) (by omega) (by simp only [hgl, hgr, List.length_map, List.length_cons, List.length_nil, indexP, ev_tmp, ev_const, ev_func, upd_at, slots_cons, slots_nil, objs_cons, objs_nil, Nat.reduceLT, Nat.reduceEqDiff, Nat.reduceAdd, reduceIte, if_true, if_false, ofVal, ofS, noOb, reduceCtorEq]; rfl) (by simp only [fpOf, idOf, Option.getD_some, Option.getD_none, Op.operands, Call.operands, V.idsL, V.ids, idsL_t, List.append_nil, List.nil_append, List.cons_append, List.toList_toArray, List.map_toArray, List.size_toArray, List.append_toArray, ev_tmp, ev_const, ev_func, upd_at, slots_cons, slots_nil, objs_cons, objs_nil, Nat.reduceLT, Nat.reduceEqDiff, Nat.reduceAdd, reduceIte, if_true, if_false, ofVal, ofS, noOb, reduceCtorEq, List.take_succ_cons, List.take_zero, List.drop_succ_cons, List.drop_zero, List.take_nil, List.drop_nil, List.nil_append, List.cons_append, List.append_nil, List.length_cons, List.length_nil, List.head?_cons, List.map_cons, List.map_nil, Nat.reduceAdd, Nat.zero_add, List.length_map, hgl, hgr, List.length_map, List.length_cons, List.length_nil]; rfl) ?_
        refine r_load1 rfl yA3d (by conv => lhs; whnf) (by conv => lhs; whnf) (by (try simp only [hgl, hgr, List.length_map, List.length_cons, List.length_nil, List.take_succ_cons, List.take_zero, List.drop_succ_cons, List.drop_zero, List.take_nil, List.drop_nil, List.nil_append, List.cons_append, List.append_nil, List.length_cons, List.length_nil, List.head?_cons, List.map_cons, List.map_nil, Nat.reduceAdd, Nat.zero_add, List.length_map]); rfl) (by simp only [fpOf, idOf, Option.getD_some, Option.getD_none, Op.operands, Call.operands, V.idsL, V.ids, idsL_t, List.append_nil, List.nil_append, List.cons_append, List.toList_toArray, List.map_toArray, List.size_toArray, List.append_toArray, ev_tmp, ev_const, ev_func, upd_at, slots_cons, slots_nil, objs_cons, objs_nil, Nat.reduceLT, Nat.reduceEqDiff, Nat.reduceAdd, reduceIte, if_true, if_false, ofVal, ofS, noOb, reduceCtorEq, List.take_succ_cons, List.take_zero, List.drop_succ_cons, List.drop_zero, List.take_nil, List.drop_nil, List.nil_append, List.cons_append, List.append_nil, List.length_cons, List.length_nil, List.head?_cons, List.map_cons, List.map_nil, Nat.reduceAdd, Nat.zero_add, List.length_map, hgl, hgr, List.length_map, List.length_cons, List.length_nil]; rfl) ?_
        refine r_move rfl (by conv => lhs; whnf) (by simp only [fpOf, idOf, Option.getD_some, Option.getD_none, Op.operands, Call.operands, V.idsL, V.ids, idsL_t, List.append_nil, List.nil_append, List.cons_append, List.toList_toArray, List.map_toArray, List.size_toArray, List.append_toArray, ev_tmp, ev_const, ev_func, upd_at, slots_cons, slots_nil, objs_cons, objs_nil, Nat.reduceLT, Nat.reduceEqDiff, Nat.reduceAdd, reduceIte, if_true, if_false, ofVal, ofS, noOb, reduceCtorEq, List.take_succ_cons, List.take_zero, List.drop_succ_cons, List.drop_zero, List.take_nil, List.drop_nil, List.nil_append, List.cons_append, List.append_nil, List.length_cons, List.length_nil, List.head?_cons, List.map_cons, List.map_nil, Nat.reduceAdd, Nat.zero_add, List.length_map, hgl, hgr, List.length_map, List.length_cons, List.length_nil]; rfl) ?_
        refine r_move rfl (by conv => lhs; whnf) (by simp only [fpOf, idOf, Option.getD_some, Option.getD_none, Op.operands, Call.operands, V.idsL, V.ids, idsL_t, List.append_nil, List.nil_append, List.cons_append, List.toList_toArray, List.map_toArray, List.size_toArray, List.append_toArray, ev_tmp, ev_const, ev_func, upd_at, slots_cons, slots_nil, objs_cons, objs_nil, Nat.reduceLT, Nat.reduceEqDiff, Nat.reduceAdd, reduceIte, if_true, if_false, ofVal, ofS, noOb, reduceCtorEq, List.take_succ_cons, List.take_zero, List.drop_succ_cons, List.drop_zero, List.take_nil, List.drop_nil, List.nil_append, List.cons_append, List.append_nil, List.length_cons, List.length_nil, List.head?_cons, List.map_cons, List.map_nil, Nat.reduceAdd, Nat.zero_add, List.length_map, hgl, hgr, List.length_map, List.length_cons, List.length_nil]; rfl) ?_
        refine r_indexAddr rfl yE23d (by conv => lhs; whnf) (by conv => lhs; whnf) (by omega) (by simp only [hgl, hgr, List.length_map, List.length_cons, List.length_nil, indexP, ev_tmp, ev_const, ev_func, upd_at, slots_cons, slots_nil, objs_cons, objs_nil, Nat.reduceLT, Nat.reduceEqDiff, Nat.reduceAdd, reduceIte, if_true, if_false, ofVal, ofS, noOb, reduceCtorEq]; rfl) (by simp only [fpOf, idOf, Option.getD_some, Option.getD_none, Op.operands, Call.operands, V.idsL, V.ids, idsL_t, List.append_nil, List.nil_append, List.cons_append, List.toList_toArray, List.map_toArray, List.size_toArray, List.append_toArray, ev_tmp, ev_const, ev_func, upd_at, slots_cons, slots_nil, objs_cons, objs_nil, Nat.reduceLT, Nat.reduceEqDiff, Nat.reduceAdd, reduceIte, if_true, if_false, ofVal, ofS, noOb, reduceCtorEq, List.take_succ_cons, List.take_zero, List.drop_succ_cons, List.drop_zero, List.take_nil, List.drop_nil, List.nil_append, List.cons_append, List.append_nil, List.length_cons, List.length_nil, List.head?_cons, List.map_cons, List.map_nil, Nat.reduceAdd, Nat.zero_add, List.length_map, hgl, hgr, List.length_map, List.length_cons, List.length_nil]; rfl) ?_
        refine r_load1 rfl yA3d (by conv => lhs; whnf) (by conv => lhs; whnf) (by (try simp only [hgl, hgr, List.length_map, List.length_cons, List.length_nil, List.take_succ_cons, List.take_zero, List.drop_succ_cons, List.drop_zero, List.take_nil, List.drop_nil, List.nil_append, List.cons_append, List.append_nil, List.length_cons, List.length_nil, List.head?_cons, List.map_cons, List.map_nil, Nat.reduceAdd, Nat.zero_add, List.length_map]); rfl) (by simp only [fpOf, idOf, Option.getD_some, Option.getD_none, Op.operands, Call.operands, V.idsL, V.ids, idsL_t, List.append_nil, List.nil_append, List.cons_append, List.toList_toArray, List.map_toArray, List.size_toArray, List.append_toArray, ev_tmp, ev_const, ev_func, upd_at, slots_cons, slots_nil, objs_cons, objs_nil, Nat.reduceLT, Nat.reduceEqDiff, Nat.reduceAdd, reduceIte, if_true, if_false, ofVal, ofS, noOb, reduceCtorEq, List.take_succ_cons, List.take_zero, List.drop_succ_cons, List.drop_zero, List.take_nil, List.drop_nil, List.nil_append, List.cons_append, List.append_nil, List.length_cons, List.length_nil, List.head?_cons, List.map_cons, List.map_nil, Nat.reduceAdd, Nat.zero_add, List.length_map, hgl, hgr, List.length_map, List.length_cons, List.length_nil]; rfl) ?_
        refine r_bin rfl (by conv => lhs; whnf) (by conv => lhs; whnf) (by simp only [hgl, hgr, List.length_map, List.length_cons, List.length_nil, abin, reduceIte, ne_eq, decide_not, Bool.not_true, Bool.not_false]; rfl) (by simp only [fpOf, idOf, Option.getD_some, Option.getD_none, Op.operands, Call.operands, V.idsL, V.ids, idsL_t, List.append_nil, List.nil_append, List.cons_append, List.toList_toArray, List.map_toArray, List.size_toArray, List.append_toArray, ev_tmp, ev_const, ev_func, upd_at, slots_cons, slots_nil, objs_cons, objs_nil, Nat.reduceLT, Nat.reduceEqDiff, Nat.reduceAdd, reduceIte, if_true, if_false, ofVal, ofS, noOb, reduceCtorEq, List.take_succ_cons, List.take_zero, List.drop_succ_cons, List.drop_zero, List.take_nil, List.drop_nil, List.nil_append, List.cons_append, List.append_nil, List.length_cons, List.length_nil, List.head?_cons, List.map_cons, List.map_nil, Nat.reduceAdd, Nat.zero_add, List.length_map, hgl, hgr, List.length_map, List.length_cons, List.length_nil]; rfl) ?_
        refine k_nilD (by simp only [List.reverse_cons, List.reverse_nil, List.nil_append, List.cons_append]; kernel_rfl) ?_
        refine k_seq ?_
        refine awp_cond rfl (fun hc => ?_) (fun hc => ?_)
        · have hne : eqb l r = false := (eqb_not _ _).2 (fun e => by subst e; simp [eqb] at hc)
          refine awp_seq ?_
          refine awp_region ?_
          refine r_assign rfl (by conv => lhs; whnf) rfl ?_
          refine k_nil ?_
          refine k_seq ?_
          refine awp_ret ?_
          refine k_blk_ret ?_
          refine k_seq_ret ?_
          refine k_rnd_ret ?_
          refine k_blk_ret ?_
          refine k_seq_ret ?_
          refine k_fin ?_
          refine ends_pure [] (by simp only [Try.results33, resOf, hgl, hgr, List.length_map, List.length_cons, List.length_nil, ev_tmp, ev_const, ev_func, upd_at, slots_cons, slots_nil, objs_cons, objs_nil, Nat.reduceLT, Nat.reduceEqDiff, Nat.reduceAdd, reduceIte, if_true, if_false, ofVal, ofS, noOb, reduceCtorEq]; rfl) (by rw [hne]; exact ⟨give_id _, trivial⟩) (by simp [V.idsL, V.ids])
        · have he : l[j] = r[j] := by simpa [eqb] using hc
          refine awp_skip ?_
          refine k_blk ?_
          refine k_seq ?_
          refine awp_region ?_
          refine r_move rfl (by conv => lhs; whnf) rfl ?_
          refine r_bin rfl (by conv => lhs; whnf) (by conv => lhs; whnf) (by simp only [hgl, hgr, List.length_map, List.length_cons, List.length_nil, abin, reduceIte, ne_eq, decide_not, Bool.not_true, Bool.not_false]; rfl) rfl ?_
          refine r_assign rfl (by conv => lhs; whnf) rfl ?_
          refine k_nil ?_
          refine k_rnd (j + 1) ⟨hlt, by rw [List.take_succ_eq_append_getElem hlt, List.take_succ_eq_append_getElem hlt2, htk, he]⟩ (by show l.length - (j + 1) < l.length - j; omega) (by repeat (first | exact off_frame _ _ _ | exact off_refl _ _ | refine off_upd rfl ?_ | refine off_sub rfl ?_)) (by repeat (first | exact off_frame _ _ _ | exact off_refl _ _ | refine off_upd rfl ?_ | refine off_sub rfl ?_)) (hasF_cons (by conv => lhs; whnf) (by rw [hw1]; push_cast; rfl) (by first | rfl | simp [V.ids, V.idsL, idsL_t, Ob.ids]) trivial) trivial
      · have hje : j = l.length := by have := of_decide_eq_false hc; omega
        have he : eqb l r = true := (eqb_iff _ _).2 (by rw [hje, List.take_length, hlen, List.take_length] at htk; exact htk)
        refine awp_exit ?_
        refine k_seq_exit ?_
        refine k_rnd_exit ?_
        refine k_blk_exit ?_
        refine k_seq ?_
        refine awp_seq ?_
        refine awp_region ?_
        refine r_assign rfl (by conv => lhs; whnf) rfl ?_
        refine k_nil ?_
        refine k_seq ?_
        refine awp_ret ?_
        refine k_fin ?_
        refine ends_pure [] (by simp only [Try.results33, resOf, List.length_map, ev_tmp, ev_const, ev_func, upd_at, slots_cons, slots_nil, objs_cons, objs_nil, Nat.reduceLT, Nat.reduceEqDiff, Nat.reduceAdd, reduceIte, if_true, if_false, ofVal, ofS, noOb, reduceCtorEq]; rfl) (by rw [he]; exact ⟨give_id _, trivial⟩) (by simp [V.idsL, V.ids])
theorem equalForms_of (l r : List Form) (ih : ∀ a ∈ l, ∀ b, T.wtL a.row ≤ 2 ^ 30 → T.wtL b.row ≤ 2 ^ 30 → AC Try.prog 47 [.ag (a.row.map .t), .ag (b.row.map .t)] noOb (vb (eqb a b)) noOb) (hl : T.wt (.sl (l.map Form.row)) ≤ 2 ^ 30) (hr : T.wt (.sl (r.map Form.row)) ≤ 2 ^ 30) : AC Try.prog 53 [.t (.sl (l.map Form.row)), .t (.sl (r.map Form.row)), .fn 47 []] noOb (vb (eqb l r)) noOb := by
  simp only [T.wt, List.length_map] at hl hr
  refine AC_intro (rs := [_]) Try.func53 rfl (by kernel_rfl) (by simp [Try.ntmps53]) (by simp [noOb]) ?_
  intro C hC
  rw [Try.ntmps53]
  refine awp_seq ?_
  refine awp_region ?_
  refine r_assign rfl (by conv => lhs; whnf) rfl ?_
  refine k_nil ?_
  refine k_seq ?_
  refine awp_seq ?_
  refine awp_seq ?_
  refine awp_region ?_
  refine r_move rfl (by conv => lhs; whnf) rfl ?_
  refine r_len rfl yU24d (by conv => lhs; whnf) (by conv => lhs; whnf) rfl ?_
  refine r_move rfl (by conv => lhs; whnf) rfl ?_
  refine r_len rfl yU24d (by conv => lhs; whnf) (by conv => lhs; whnf) rfl ?_
  refine r_bin rfl (by conv => lhs; whnf) (by conv => lhs; whnf) (by simp only [List.length_map, abin, reduceIte, ne_eq, decide_not, Bool.not_true, Bool.not_false]; rfl) rfl ?_
  refine k_nil ?_
  refine k_seq ?_
  refine awp_cond rfl (fun hc => ?_) (fun hc => ?_)
  · have hne : eqb l r = false := (eqb_not _ _).2 (fun e => by subst e; simp at hc)
    refine awp_seq ?_
    refine awp_region ?_
    refine r_assign rfl (by conv => lhs; whnf) rfl ?_
    refine k_nil ?_
    refine k_seq ?_
    refine awp_ret ?_
    refine k_seq_ret ?_
    refine k_fin ?_
    refine ends_pure [] (by simp only [Try.results53, resOf, List.length_map, ev_tmp, ev_const, ev_func, upd_at, slots_cons, slots_nil, objs_cons, objs_nil, Nat.reduceLT, Nat.reduceEqDiff, Nat.reduceAdd, reduceIte, if_true, if_false, ofVal, ofS, noOb, reduceCtorEq]; rfl) (by rw [hne]; exact ⟨give_id _, trivial⟩) (by simp [V.idsL, V.ids])
  · have hlen : l.length = r.length := by simp at hc; omega
    clear hc
    refine awp_skip ?_
    refine k_seq ?_
    refine awp_seq ?_
    refine awp_seq ?_
    refine awp_region ?_
    refine r_move rfl (by conv => lhs; whnf) rfl ?_
    refine r_len rfl yU24d (by conv => lhs; whnf) (by conv => lhs; whnf) rfl ?_
    refine r_move rfl (by conv => lhs; whnf) rfl ?_
    refine k_nil ?_
    refine k_seq ?_
    refine awp_block ?_
    refine awp_frame [6, 7, 8, 9, 17, 18, 19, 20, 21, 22, 23, 24, 25, 26, 27, 28, 29, 30, 31] [] [8, 9] (fun j : Nat => l.length - j) (fun j : Nat => [(17, vi j)]) (fun j : Nat => []) (fun j => j ≤ l.length ∧ l.take j = r.take j) 0 ⟨Nat.zero_le _, by simp⟩ (by rfl) (by rfl) (fun _ => rfl) (hasF_cons (by conv => lhs; whnf) (by first | rfl | simp) (by first | rfl | simp [V.ids, V.idsL, idsL_t, Ob.ids]) trivial) trivial ?_
    · rintro j ⟨hj, htk⟩
      refine awp_seq ?_
      refine awp_region ?_
      refine r_bin rfl (by conv => lhs; whnf) (by conv => lhs; whnf) (by simp only [List.length_map, abin, reduceIte, ne_eq, decide_not, Bool.not_true, Bool.not_false]; rfl) rfl ?_
      refine k_nil ?_
      refine k_seq ?_
      refine awp_seq ?_
      refine awp_cond rfl (fun hc => ?_) (fun hc => ?_)
      · have hlt : j < l.length := by have := of_decide_eq_true hc; omega
        have hlt2 : j < r.length := by omega
        have hgl := map_get Form.row l j hlt
        have hgr := map_get Form.row r j hlt2
        have hw1 := IntWalk.i64_in ((j : Int) + 1) (by omega)
        clear hc
        have hle := T.wtR_le Form.row l (j + 1)
        have hsucc := T.wtR_succ Form.row l j hlt
        have hle2 := T.wtR_le Form.row r (j + 1)
        have hsucc2 := T.wtR_succ Form.row r j hlt2
        have hkid := ih l[j] (List.getElem_mem hlt) r[j] (by omega) (by omega)
        refine awp_skip ?_
        refine k_seq ?_
        refine awp_seq ?_
        refine awp_block ?_
        refine awp_seq ?_
        refine awp_region ?_
        refine r_move rfl (by conv => lhs; whnf) rfl ?_
        refine r_indexAddr rfl yE24d (by conv => lhs; whnf) (by conv => lhs; whnf) (by omega) (by simp only [hgl, hgr, Form.row_len, Form.take, List.length_map, indexP, ev_tmp, ev_const, ev_func, upd_at, slots_cons, slots_nil, objs_cons, objs_nil, Nat.reduceLT, Nat.reduceEqDiff, Nat.reduceAdd, reduceIte, if_true, if_false, ofVal, ofS, noOb, reduceCtorEq]; rfl) rfl ?_
        refine r_loadN rfl yA26d yS26d (by conv => lhs; whnf) (by conv => lhs; whnf) (by simp only [hgl, hgr, Form.row_len, Form.take, List.length_map, List.take_succ_cons, List.take_zero, List.drop_succ_cons, List.drop_zero, List.take_nil, List.drop_nil, List.nil_append, List.cons_append, List.append_nil, List.length_cons, List.length_nil, List.head?_cons, List.map_cons, List.map_nil, Nat.reduceAdd, Nat.zero_add, List.length_map]; omega) (by (try simp only [hgl, hgr, Form.row_len, Form.take, List.length_map, List.take_succ_cons, List.take_zero, List.drop_succ_cons, List.drop_zero, List.take_nil, List.drop_nil, List.nil_append, List.cons_append, List.append_nil, List.length_cons, List.length_nil, List.head?_cons, List.map_cons, List.map_nil, Nat.reduceAdd, Nat.zero_add, List.length_map]); rfl) rfl ?_
        refine r_alloc rfl yZ26d rfl rfl ?_
        refine r_assign rfl (by conv => lhs; whnf) rfl ?_
        refine r_storeB rfl (by conv => lhs; whnf) (by conv => lhs; whnf) (by conv => lhs; whnf) (by conv => lhs; whnf) (by first | rfl | simp only [hgl, hgr, Form.row_len, Form.take, List.length_map, oneAll_t]) (by rw [yS26d]; simp only [hgl, hgr, Form.row_len, Form.take, List.length_map, List.take_succ_cons, List.take_zero, List.drop_succ_cons, List.drop_zero, List.take_nil, List.drop_nil, List.nil_append, List.cons_append, List.append_nil, List.length_cons, List.length_nil, List.head?_cons, List.map_cons, List.map_nil, Nat.reduceAdd, Nat.zero_add, List.length_map]) (by simp only [hgl, hgr, Form.row_len, Form.take, List.length_map, List.take_succ_cons, List.take_zero, List.drop_succ_cons, List.drop_zero, List.take_nil, List.drop_nil, List.nil_append, List.cons_append, List.append_nil, List.length_cons, List.length_nil, List.head?_cons, List.map_cons, List.map_nil, Nat.reduceAdd, Nat.zero_add, List.length_map]; omega) (splice_all (by simp only [hgl, hgr, Form.row_len, Form.take, List.length_map, List.take_succ_cons, List.take_zero, List.drop_succ_cons, List.drop_zero, List.take_nil, List.drop_nil, List.nil_append, List.cons_append, List.append_nil, List.length_cons, List.length_nil, List.head?_cons, List.map_cons, List.map_nil, Nat.reduceAdd, Nat.zero_add, List.length_map]; omega)) rfl ?_
        refine k_nil ?_
        refine k_seq ?_
        refine awp_seq ?_
        refine awp_region ?_
        refine r_move rfl (by conv => lhs; whnf) rfl ?_
        refine r_move rfl (by conv => lhs; whnf) rfl ?_
        refine r_indexAddr rfl yE24d (by conv => lhs; whnf) (by conv => lhs; whnf) (by omega) (by simp only [hgl, hgr, Form.row_len, Form.take, List.length_map, indexP, ev_tmp, ev_const, ev_func, upd_at, slots_cons, slots_nil, objs_cons, objs_nil, Nat.reduceLT, Nat.reduceEqDiff, Nat.reduceAdd, reduceIte, if_true, if_false, ofVal, ofS, noOb, reduceCtorEq]; rfl) rfl ?_
        refine r_loadN rfl yA26d yS26d (by conv => lhs; whnf) (by conv => lhs; whnf) (by simp only [hgl, hgr, Form.row_len, Form.take, List.length_map, List.take_succ_cons, List.take_zero, List.drop_succ_cons, List.drop_zero, List.take_nil, List.drop_nil, List.nil_append, List.cons_append, List.append_nil, List.length_cons, List.length_nil, List.head?_cons, List.map_cons, List.map_nil, Nat.reduceAdd, Nat.zero_add, List.length_map]; omega) (by (try simp only [hgl, hgr, Form.row_len, Form.take, List.length_map, List.take_succ_cons, List.take_zero, List.drop_succ_cons, List.drop_zero, List.take_nil, List.drop_nil, List.nil_append, List.cons_append, List.append_nil, List.length_cons, List.length_nil, List.head?_cons, List.map_cons, List.map_nil, Nat.reduceAdd, Nat.zero_add, List.length_map]); rfl) rfl ?_
        refine r_alloc rfl yZ26d rfl rfl ?_
        refine r_storeB rfl (by conv => lhs; whnf) (by conv => lhs; whnf) (by conv => lhs; whnf) (by conv => lhs; whnf) (by first | rfl | simp only [hgl, hgr, Form.row_len, Form.take, List.length_map, oneAll_t]) (by rw [yS26d]; simp only [hgl, hgr, Form.row_len, Form.take, List.length_map, List.take_succ_cons, List.take_zero, List.drop_succ_cons, List.drop_zero, List.take_nil, List.drop_nil, List.nil_append, List.cons_append, List.append_nil, List.length_cons, List.length_nil, List.head?_cons, List.map_cons, List.map_nil, Nat.reduceAdd, Nat.zero_add, List.length_map]) (by simp only [hgl, hgr, Form.row_len, Form.take, List.length_map, List.take_succ_cons, List.take_zero, List.drop_succ_cons, List.drop_zero, List.take_nil, List.drop_nil, List.nil_append, List.cons_append, List.append_nil, List.length_cons, List.length_nil, List.head?_cons, List.map_cons, List.map_nil, Nat.reduceAdd, Nat.zero_add, List.length_map]; omega) (splice_all (by simp only [hgl, hgr, Form.row_len, Form.take, List.length_map, List.take_succ_cons, List.take_zero, List.drop_succ_cons, List.drop_zero, List.take_nil, List.drop_nil, List.nil_append, List.cons_append, List.append_nil, List.length_cons, List.length_nil, List.head?_cons, List.map_cons, List.map_nil, Nat.reduceAdd, Nat.zero_add, List.length_map]; omega)) rfl ?_
        refine k_nil ?_
        refine k_seq ?_
        refine awp_seq ?_
        refine awp_region ?_
        refine r_move rfl (by conv => lhs; whnf) rfl ?_
        refine r_loadN rfl yA26d yS26d (by conv => lhs; whnf) (by conv => lhs; whnf) (by simp only [hgl, hgr, Form.row_len, Form.take, List.length_map, List.take_succ_cons, List.take_zero, List.drop_succ_cons, List.drop_zero, List.take_nil, List.drop_nil, List.nil_append, List.cons_append, List.append_nil, List.length_cons, List.length_nil, List.head?_cons, List.map_cons, List.map_nil, Nat.reduceAdd, Nat.zero_add, List.length_map]; omega) (by (try simp only [hgl, hgr, Form.row_len, Form.take, List.length_map, List.take_succ_cons, List.take_zero, List.drop_succ_cons, List.drop_zero, List.take_nil, List.drop_nil, List.nil_append, List.cons_append, List.append_nil, List.length_cons, List.length_nil, List.head?_cons, List.map_cons, List.map_nil, Nat.reduceAdd, Nat.zero_add, List.length_map]); rfl) rfl ?_
        refine r_loadN rfl yA26d yS26d (by conv => lhs; whnf) (by conv => lhs; whnf) (by simp only [hgl, hgr, Form.row_len, Form.take, List.length_map, List.take_succ_cons, List.take_zero, List.drop_succ_cons, List.drop_zero, List.take_nil, List.drop_nil, List.nil_append, List.cons_append, List.append_nil, List.length_cons, List.length_nil, List.head?_cons, List.map_cons, List.map_nil, Nat.reduceAdd, Nat.zero_add, List.length_map]; omega) (by (try simp only [hgl, hgr, Form.row_len, Form.take, List.length_map, List.take_succ_cons, List.take_zero, List.drop_succ_cons, List.drop_zero, List.take_nil, List.drop_nil, List.nil_append, List.cons_append, List.append_nil, List.length_cons, List.length_nil, List.head?_cons, List.map_cons, List.map_nil, Nat.reduceAdd, Nat.zero_add, List.length_map]); rfl) rfl ?_
        refine r_pure [] rfl rfl rfl (by conv => lhs; whnf) (by simp only [hgl, hgr, Form.row_len, Form.take, List.length_map, ev_tmp, ev_const, ev_func, upd_at, slots_cons, slots_nil, objs_cons, objs_nil, Nat.reduceLT, Nat.reduceEqDiff, Nat.reduceAdd, reduceIte, if_true, if_false, ofVal, ofS, noOb, reduceCtorEq, List.take_succ_cons, List.take_zero, List.drop_succ_cons, List.drop_zero, List.take_nil, List.drop_nil, List.nil_append, List.cons_append, List.append_nil, List.length_cons, List.length_nil, List.head?_cons, List.map_cons, List.map_nil, Nat.reduceAdd, Nat.zero_add, List.length_map, List.toList_toArray]; rfl) (by simp only [hgl, hgr, Form.row_len, Form.take, List.length_map, fzU, ev_tmp, ev_const, ev_func, upd_at, slots_cons, slots_nil, objs_cons, objs_nil, Nat.reduceLT, Nat.reduceEqDiff, Nat.reduceAdd, reduceIte, if_true, if_false, ofVal, ofS, noOb, reduceCtorEq]; rfl) (by simp only [app]; rfl) (hkid) (by exact ⟨(by first | exact pass_id rfl | exact pass_id (ids_row _) | exact .inr (.inl ⟨_, rfl, rfl, by simp [fz]⟩) | exact .inr (.inr ⟨_, _, rfl, rfl, rfl, by simp [fz]⟩)), (by first | exact pass_id rfl | exact pass_id (ids_row _) | exact .inr (.inl ⟨_, rfl, rfl, by simp [fz]⟩) | exact .inr (.inr ⟨_, _, rfl, rfl, rfl, by simp [fz]⟩)), trivial⟩) rfl ?_
        refine r_un rfl (by conv => lhs; whnf) (by conv => lhs; whnf) rfl ?_
        refine k_nil ?_
        refine k_seq ?_
        refine awp_cond rfl (fun hc => ?_) (fun hc => ?_)
        · have hne : eqb l r = false := (eqb_not _ _).2 (fun e => by subst e; simp [eqb] at hc)
          refine awp_seq ?_
          refine awp_region ?_
          refine r_assign rfl (by conv => lhs; whnf) rfl ?_
          refine k_nil ?_
          refine k_seq ?_
          refine awp_ret ?_
          refine k_blk_ret ?_
          refine k_seq_ret ?_
          refine k_rnd_ret ?_
          refine k_blk_ret ?_
          refine k_seq_ret ?_
          refine k_fin ?_
          refine ends_pure [] (by simp only [Try.results53, resOf, hgl, hgr, Form.row_len, Form.take, List.length_map, ev_tmp, ev_const, ev_func, upd_at, slots_cons, slots_nil, objs_cons, objs_nil, Nat.reduceLT, Nat.reduceEqDiff, Nat.reduceAdd, reduceIte, if_true, if_false, ofVal, ofS, noOb, reduceCtorEq]; rfl) (by rw [hne]; exact ⟨give_id _, trivial⟩) (by simp [V.idsL, V.ids])
        · have he : l[j] = r[j] := by simpa [eqb] using hc
          refine awp_skip ?_
          refine k_blk ?_
          refine k_seq ?_
          refine awp_region ?_
          refine r_bin rfl (by conv => lhs; whnf) (by conv => lhs; whnf) (by simp only [hgl, hgr, Form.row_len, Form.take, List.length_map, abin, reduceIte, ne_eq, decide_not, Bool.not_true, Bool.not_false]; rfl) rfl ?_
          refine r_move rfl (by conv => lhs; whnf) rfl ?_
          refine k_nil ?_
          refine k_rnd (j + 1) ⟨hlt, by rw [List.take_succ_eq_append_getElem hlt, List.take_succ_eq_append_getElem hlt2, htk, he]⟩ (by show l.length - (j + 1) < l.length - j; omega) (by repeat (first | exact off_frame _ _ _ | exact off_refl _ _ | refine off_upd rfl ?_ | refine off_sub rfl ?_)) (by repeat (first | exact off_frame _ _ _ | exact off_refl _ _ | refine off_upd rfl ?_ | refine off_sub rfl ?_)) (hasF_cons (by conv => lhs; whnf) (by rw [hw1]; push_cast; rfl) (by first | rfl | simp [V.ids, V.idsL, idsL_t, Ob.ids]) trivial) trivial
      · have hje : j = l.length := by have := of_decide_eq_false hc; omega
        have he : eqb l r = true := (eqb_iff _ _).2 (by rw [hje, List.take_length, hlen, List.take_length] at htk; exact htk)
        refine awp_exit ?_
        refine k_seq_exit ?_
        refine k_rnd_exit ?_
        refine k_blk_exit ?_
        refine k_seq ?_
        refine awp_seq ?_
        refine awp_region ?_
        refine r_assign rfl (by conv => lhs; whnf) rfl ?_
        refine k_nil ?_
        refine k_seq ?_
        refine awp_ret ?_
        refine k_fin ?_
        refine ends_pure [] (by simp only [Try.results53, resOf, List.length_map, ev_tmp, ev_const, ev_func, upd_at, slots_cons, slots_nil, objs_cons, objs_nil, Nat.reduceLT, Nat.reduceEqDiff, Nat.reduceAdd, reduceIte, if_true, if_false, ofVal, ofS, noOb, reduceCtorEq]; rfl) (by rw [he]; exact ⟨give_id _, trivial⟩) (by simp [V.idsL, V.ids])
theorem equalCores_of (l r : List Core) (ih : ∀ a ∈ l, ∀ b, T.wtL a.row ≤ 2 ^ 30 → T.wtL b.row ≤ 2 ^ 30 → AC Try.prog 35 [.ag (a.row.map .t), .ag (b.row.map .t)] noOb (vb (eqb a b)) noOb) (hl : T.wt (.sl (l.map Core.row)) ≤ 2 ^ 30) (hr : T.wt (.sl (r.map Core.row)) ≤ 2 ^ 30) : AC Try.prog 48 [.t (.sl (l.map Core.row)), .t (.sl (r.map Core.row)), .fn 35 []] noOb (vb (eqb l r)) noOb := by
  simp only [T.wt, List.length_map] at hl hr
  refine AC_intro (rs := [_]) Try.func48 rfl (by kernel_rfl) (by simp [Try.ntmps48]) (by simp [noOb]) ?_
  intro C hC
  rw [Try.ntmps48]
  refine awp_seq ?_
  refine awp_region ?_
  refine r_assign rfl (by conv => lhs; whnf) rfl ?_
  refine k_nil ?_
  refine k_seq ?_
  refine awp_seq ?_
  refine awp_seq ?_
  refine awp_region ?_
  refine r_move rfl (by conv => lhs; whnf) rfl ?_
  refine r_len rfl yU27d (by conv => lhs; whnf) (by conv => lhs; whnf) rfl ?_
  refine r_move rfl (by conv => lhs; whnf) rfl ?_
  refine r_len rfl yU27d (by conv => lhs; whnf) (by conv => lhs; whnf) rfl ?_
  refine r_bin rfl (by conv => lhs; whnf) (by conv => lhs; whnf) (by simp only [List.length_map, abin, reduceIte, ne_eq, decide_not, Bool.not_true, Bool.not_false]; rfl) rfl ?_
  refine k_nil ?_
  refine k_seq ?_
  refine awp_cond rfl (fun hc => ?_) (fun hc => ?_)
  · have hne : eqb l r = false := (eqb_not _ _).2 (fun e => by subst e; simp at hc)
    refine awp_seq ?_
    refine awp_region ?_
    refine r_assign rfl (by conv => lhs; whnf) rfl ?_
    refine k_nil ?_
    refine k_seq ?_
    refine awp_ret ?_
    refine k_seq_ret ?_
    refine k_fin ?_
    refine ends_pure [] (by simp only [Try.results48, resOf, List.length_map, ev_tmp, ev_const, ev_func, upd_at, slots_cons, slots_nil, objs_cons, objs_nil, Nat.reduceLT, Nat.reduceEqDiff, Nat.reduceAdd, reduceIte, if_true, if_false, ofVal, ofS, noOb, reduceCtorEq]; rfl) (by rw [hne]; exact ⟨give_id _, trivial⟩) (by simp [V.idsL, V.ids])
  · have hlen : l.length = r.length := by simp at hc; omega
    clear hc
    refine awp_skip ?_
    refine k_seq ?_
    refine awp_seq ?_
    refine awp_seq ?_
    refine awp_region ?_
    refine r_move rfl (by conv => lhs; whnf) rfl ?_
    refine r_len rfl yU27d (by conv => lhs; whnf) (by conv => lhs; whnf) rfl ?_
    refine r_move rfl (by conv => lhs; whnf) rfl ?_
    refine k_nil ?_
    refine k_seq ?_
    refine awp_block ?_
    refine awp_frame [6, 7, 8, 9, 17, 18, 19, 20, 21, 22, 23, 24, 25, 26, 27, 28, 29, 30, 31] [] [8, 9] (fun j : Nat => l.length - j) (fun j : Nat => [(17, vi j)]) (fun j : Nat => []) (fun j => j ≤ l.length ∧ l.take j = r.take j) 0 ⟨Nat.zero_le _, by simp⟩ (by rfl) (by rfl) (fun _ => rfl) (hasF_cons (by conv => lhs; whnf) (by first | rfl | simp) (by first | rfl | simp [V.ids, V.idsL, idsL_t, Ob.ids]) trivial) trivial ?_
    · rintro j ⟨hj, htk⟩
      refine awp_seq ?_
      refine awp_region ?_
      refine r_bin rfl (by conv => lhs; whnf) (by conv => lhs; whnf) (by simp only [List.length_map, abin, reduceIte, ne_eq, decide_not, Bool.not_true, Bool.not_false]; rfl) rfl ?_
      refine k_nil ?_
      refine k_seq ?_
      refine awp_seq ?_
      refine awp_cond rfl (fun hc => ?_) (fun hc => ?_)
      · have hlt : j < l.length := by have := of_decide_eq_true hc; omega
        have hlt2 : j < r.length := by omega
        have hgl := map_get Core.row l j hlt
        have hgr := map_get Core.row r j hlt2
        have hw1 := IntWalk.i64_in ((j : Int) + 1) (by omega)
        clear hc
        have hle := T.wtR_le Core.row l (j + 1)
        have hsucc := T.wtR_succ Core.row l j hlt
        have hle2 := T.wtR_le Core.row r (j + 1)
        have hsucc2 := T.wtR_succ Core.row r j hlt2
        have hkid := ih l[j] (List.getElem_mem hlt) r[j] (by omega) (by omega)
        refine awp_skip ?_
        refine k_seq ?_
        refine awp_seq ?_
        refine awp_block ?_
        refine awp_seq ?_
        refine awp_region ?_
        refine r_move rfl (by conv => lhs; whnf) rfl ?_
        refine r_indexAddr rfl yE27d (by conv => lhs; whnf) (by conv => lhs; whnf) (by omega) (by simp only [hgl, hgr, Core.row_len, Core.take, List.length_map, indexP, ev_tmp, ev_const, ev_func, upd_at, slots_cons, slots_nil, objs_cons, objs_nil, Nat.reduceLT, Nat.reduceEqDiff, Nat.reduceAdd, reduceIte, if_true, if_false, ofVal, ofS, noOb, reduceCtorEq]; rfl) rfl ?_
        refine r_loadN rfl yA29d yS29d (by conv => lhs; whnf) (by conv => lhs; whnf) (by simp only [hgl, hgr, Core.row_len, Core.take, List.length_map, List.take_succ_cons, List.take_zero, List.drop_succ_cons, List.drop_zero, List.take_nil, List.drop_nil, List.nil_append, List.cons_append, List.append_nil, List.length_cons, List.length_nil, List.head?_cons, List.map_cons, List.map_nil, Nat.reduceAdd, Nat.zero_add, List.length_map]; omega) (by (try simp only [hgl, hgr, Core.row_len, Core.take, List.length_map, List.take_succ_cons, List.take_zero, List.drop_succ_cons, List.drop_zero, List.take_nil, List.drop_nil, List.nil_append, List.cons_append, List.append_nil, List.length_cons, List.length_nil, List.head?_cons, List.map_cons, List.map_nil, Nat.reduceAdd, Nat.zero_add, List.length_map]); rfl) rfl ?_
        refine r_alloc rfl yZ29d rfl rfl ?_
        refine r_assign rfl (by conv => lhs; whnf) rfl ?_
        refine r_storeB rfl (by conv => lhs; whnf) (by conv => lhs; whnf) (by conv => lhs; whnf) (by conv => lhs; whnf) (by first | rfl | simp only [hgl, hgr, Core.row_len, Core.take, List.length_map, oneAll_t]) (by rw [yS29d]; simp only [hgl, hgr, Core.row_len, Core.take, List.length_map, List.take_succ_cons, List.take_zero, List.drop_succ_cons, List.drop_zero, List.take_nil, List.drop_nil, List.nil_append, List.cons_append, List.append_nil, List.length_cons, List.length_nil, List.head?_cons, List.map_cons, List.map_nil, Nat.reduceAdd, Nat.zero_add, List.length_map]) (by simp only [hgl, hgr, Core.row_len, Core.take, List.length_map, List.take_succ_cons, List.take_zero, List.drop_succ_cons, List.drop_zero, List.take_nil, List.drop_nil, List.nil_append, List.cons_append, List.append_nil, List.length_cons, List.length_nil, List.head?_cons, List.map_cons, List.map_nil, Nat.reduceAdd, Nat.zero_add, List.length_map]; omega) (splice_all (by simp only [hgl, hgr, Core.row_len, Core.take, List.length_map, List.take_succ_cons, List.take_zero, List.drop_succ_cons, List.drop_zero, List.take_nil, List.drop_nil, List.nil_append, List.cons_append, List.append_nil, List.length_cons, List.length_nil, List.head?_cons, List.map_cons, List.map_nil, Nat.reduceAdd, Nat.zero_add, List.length_map]; omega)) rfl ?_
        refine k_nil ?_
        refine k_seq ?_
        refine awp_seq ?_
        refine awp_region ?_
        refine r_move rfl (by conv => lhs; whnf) rfl ?_
        refine r_move rfl (by conv => lhs; whnf) rfl ?_
        refine r_indexAddr rfl yE27d (by conv => lhs; whnf) (by conv => lhs; whnf) (by omega) (by simp only [hgl, hgr, Core.row_len, Core.take, List.length_map, indexP, ev_tmp, ev_const, ev_func, upd_at, slots_cons, slots_nil, objs_cons, objs_nil, Nat.reduceLT, Nat.reduceEqDiff, Nat.reduceAdd, reduceIte, if_true, if_false, ofVal, ofS, noOb, reduceCtorEq]; rfl) rfl ?_
        refine r_loadN rfl yA29d yS29d (by conv => lhs; whnf) (by conv => lhs; whnf) (by simp only [hgl, hgr, Core.row_len, Core.take, List.length_map, List.take_succ_cons, List.take_zero, List.drop_succ_cons, List.drop_zero, List.take_nil, List.drop_nil, List.nil_append, List.cons_append, List.append_nil, List.length_cons, List.length_nil, List.head?_cons, List.map_cons, List.map_nil, Nat.reduceAdd, Nat.zero_add, List.length_map]; omega) (by (try simp only [hgl, hgr, Core.row_len, Core.take, List.length_map, List.take_succ_cons, List.take_zero, List.drop_succ_cons, List.drop_zero, List.take_nil, List.drop_nil, List.nil_append, List.cons_append, List.append_nil, List.length_cons, List.length_nil, List.head?_cons, List.map_cons, List.map_nil, Nat.reduceAdd, Nat.zero_add, List.length_map]); rfl) rfl ?_
        refine r_alloc rfl yZ29d rfl rfl ?_
        refine r_storeB rfl (by conv => lhs; whnf) (by conv => lhs; whnf) (by conv => lhs; whnf) (by conv => lhs; whnf) (by first | rfl | simp only [hgl, hgr, Core.row_len, Core.take, List.length_map, oneAll_t]) (by rw [yS29d]; simp only [hgl, hgr, Core.row_len, Core.take, List.length_map, List.take_succ_cons, List.take_zero, List.drop_succ_cons, List.drop_zero, List.take_nil, List.drop_nil, List.nil_append, List.cons_append, List.append_nil, List.length_cons, List.length_nil, List.head?_cons, List.map_cons, List.map_nil, Nat.reduceAdd, Nat.zero_add, List.length_map]) (by simp only [hgl, hgr, Core.row_len, Core.take, List.length_map, List.take_succ_cons, List.take_zero, List.drop_succ_cons, List.drop_zero, List.take_nil, List.drop_nil, List.nil_append, List.cons_append, List.append_nil, List.length_cons, List.length_nil, List.head?_cons, List.map_cons, List.map_nil, Nat.reduceAdd, Nat.zero_add, List.length_map]; omega) (splice_all (by simp only [hgl, hgr, Core.row_len, Core.take, List.length_map, List.take_succ_cons, List.take_zero, List.drop_succ_cons, List.drop_zero, List.take_nil, List.drop_nil, List.nil_append, List.cons_append, List.append_nil, List.length_cons, List.length_nil, List.head?_cons, List.map_cons, List.map_nil, Nat.reduceAdd, Nat.zero_add, List.length_map]; omega)) rfl ?_
        refine k_nil ?_
        refine k_seq ?_
        refine awp_seq ?_
        refine awp_region ?_
        refine r_move rfl (by conv => lhs; whnf) rfl ?_
        refine r_loadN rfl yA29d yS29d (by conv => lhs; whnf) (by conv => lhs; whnf) (by simp only [hgl, hgr, Core.row_len, Core.take, List.length_map, List.take_succ_cons, List.take_zero, List.drop_succ_cons, List.drop_zero, List.take_nil, List.drop_nil, List.nil_append, List.cons_append, List.append_nil, List.length_cons, List.length_nil, List.head?_cons, List.map_cons, List.map_nil, Nat.reduceAdd, Nat.zero_add, List.length_map]; omega) (by (try simp only [hgl, hgr, Core.row_len, Core.take, List.length_map, List.take_succ_cons, List.take_zero, List.drop_succ_cons, List.drop_zero, List.take_nil, List.drop_nil, List.nil_append, List.cons_append, List.append_nil, List.length_cons, List.length_nil, List.head?_cons, List.map_cons, List.map_nil, Nat.reduceAdd, Nat.zero_add, List.length_map]); rfl) rfl ?_
        refine r_loadN rfl yA29d yS29d (by conv => lhs; whnf) (by conv => lhs; whnf) (by simp only [hgl, hgr, Core.row_len, Core.take, List.length_map, List.take_succ_cons, List.take_zero, List.drop_succ_cons, List.drop_zero, List.take_nil, List.drop_nil, List.nil_append, List.cons_append, List.append_nil, List.length_cons, List.length_nil, List.head?_cons, List.map_cons, List.map_nil, Nat.reduceAdd, Nat.zero_add, List.length_map]; omega) (by (try simp only [hgl, hgr, Core.row_len, Core.take, List.length_map, List.take_succ_cons, List.take_zero, List.drop_succ_cons, List.drop_zero, List.take_nil, List.drop_nil, List.nil_append, List.cons_append, List.append_nil, List.length_cons, List.length_nil, List.head?_cons, List.map_cons, List.map_nil, Nat.reduceAdd, Nat.zero_add, List.length_map]); rfl) rfl ?_
        refine r_pure [] rfl rfl rfl (by conv => lhs; whnf) (by simp only [hgl, hgr, Core.row_len, Core.take, List.length_map, ev_tmp, ev_const, ev_func, upd_at, slots_cons, slots_nil, objs_cons, objs_nil, Nat.reduceLT, Nat.reduceEqDiff, Nat.reduceAdd, reduceIte, if_true, if_false, ofVal, ofS, noOb, reduceCtorEq, List.take_succ_cons, List.take_zero, List.drop_succ_cons, List.drop_zero, List.take_nil, List.drop_nil, List.nil_append, List.cons_append, List.append_nil, List.length_cons, List.length_nil, List.head?_cons, List.map_cons, List.map_nil, Nat.reduceAdd, Nat.zero_add, List.length_map, List.toList_toArray]; rfl) (by simp only [hgl, hgr, Core.row_len, Core.take, List.length_map, fzU, ev_tmp, ev_const, ev_func, upd_at, slots_cons, slots_nil, objs_cons, objs_nil, Nat.reduceLT, Nat.reduceEqDiff, Nat.reduceAdd, reduceIte, if_true, if_false, ofVal, ofS, noOb, reduceCtorEq]; rfl) (by simp only [app]; rfl) (hkid) (by exact ⟨(by first | exact pass_id rfl | exact pass_id (ids_row _) | exact .inr (.inl ⟨_, rfl, rfl, by simp [fz]⟩) | exact .inr (.inr ⟨_, _, rfl, rfl, rfl, by simp [fz]⟩)), (by first | exact pass_id rfl | exact pass_id (ids_row _) | exact .inr (.inl ⟨_, rfl, rfl, by simp [fz]⟩) | exact .inr (.inr ⟨_, _, rfl, rfl, rfl, by simp [fz]⟩)), trivial⟩) rfl ?_
        refine r_un rfl (by conv => lhs; whnf) (by conv => lhs; whnf) rfl ?_
        refine k_nil ?_
        refine k_seq ?_
        refine awp_cond rfl (fun hc => ?_) (fun hc => ?_)
        · have hne : eqb l r = false := (eqb_not _ _).2 (fun e => by subst e; simp [eqb] at hc)
          refine awp_seq ?_
          refine awp_region ?_
          refine r_assign rfl (by conv => lhs; whnf) rfl ?_
          refine k_nil ?_
          refine k_seq ?_
          refine awp_ret ?_
          refine k_blk_ret ?_
          refine k_seq_ret ?_
          refine k_rnd_ret ?_
          refine k_blk_ret ?_
          refine k_seq_ret ?_
          refine k_fin ?_
          refine ends_pure [] (by simp only [Try.results48, resOf, hgl, hgr, Core.row_len, Core.take, List.length_map, ev_tmp, ev_const, ev_func, upd_at, slots_cons, slots_nil, objs_cons, objs_nil, Nat.reduceLT, Nat.reduceEqDiff, Nat.reduceAdd, reduceIte, if_true, if_false, ofVal, ofS, noOb, reduceCtorEq]; rfl) (by rw [hne]; exact ⟨give_id _, trivial⟩) (by simp [V.idsL, V.ids])
        · have he : l[j] = r[j] := by simpa [eqb] using hc
          refine awp_skip ?_
          refine k_blk ?_
          refine k_seq ?_
          refine awp_region ?_
          refine r_bin rfl (by conv => lhs; whnf) (by conv => lhs; whnf) (by simp only [hgl, hgr, Core.row_len, Core.take, List.length_map, abin, reduceIte, ne_eq, decide_not, Bool.not_true, Bool.not_false]; rfl) rfl ?_
          refine r_move rfl (by conv => lhs; whnf) rfl ?_
          refine k_nil ?_
          refine k_rnd (j + 1) ⟨hlt, by rw [List.take_succ_eq_append_getElem hlt, List.take_succ_eq_append_getElem hlt2, htk, he]⟩ (by show l.length - (j + 1) < l.length - j; omega) (by repeat (first | exact off_frame _ _ _ | exact off_refl _ _ | refine off_upd rfl ?_ | refine off_sub rfl ?_)) (by repeat (first | exact off_frame _ _ _ | exact off_refl _ _ | refine off_upd rfl ?_ | refine off_sub rfl ?_)) (hasF_cons (by conv => lhs; whnf) (by rw [hw1]; push_cast; rfl) (by first | rfl | simp [V.ids, V.idsL, idsL_t, Ob.ids]) trivial) trivial
      · have hje : j = l.length := by have := of_decide_eq_false hc; omega
        have he : eqb l r = true := (eqb_iff _ _).2 (by rw [hje, List.take_length, hlen, List.take_length] at htk; exact htk)
        refine awp_exit ?_
        refine k_seq_exit ?_
        refine k_rnd_exit ?_
        refine k_blk_exit ?_
        refine k_seq ?_
        refine awp_seq ?_
        refine awp_region ?_
        refine r_assign rfl (by conv => lhs; whnf) rfl ?_
        refine k_nil ?_
        refine k_seq ?_
        refine awp_ret ?_
        refine k_fin ?_
        refine ends_pure [] (by simp only [Try.results48, resOf, List.length_map, ev_tmp, ev_const, ev_func, upd_at, slots_cons, slots_nil, objs_cons, objs_nil, Nat.reduceLT, Nat.reduceEqDiff, Nat.reduceAdd, reduceIte, if_true, if_false, ofVal, ofS, noOb, reduceCtorEq]; rfl) (by rw [he]; exact ⟨give_id _, trivial⟩) (by simp [V.idsL, V.ids])
theorem formSame_ok : ∀ (a b : Form), T.wtL a.row ≤ 2 ^ 30 → T.wtL b.row ≤ 2 ^ 30 → AC Try.prog 47 [.ag (a.row.map .t), .ag (b.row.map .t)] noOb (vb (eqb a b)) noOb
  | (Form.mk kind name n scopes kids), (Form.mk z_kind z_name z_n z_scopes z_kids), hl, hr => by
    rw [Form.row_mk] at hl hr ⊢
    rw [Form.row_mk]
    simp only [T.wtL, T.wt, S.wt, T.wtR_ints, List.length_map] at hl hr
    refine AC_intro (rs := [_]) Try.func47 rfl (by kernel_rfl) (by simp [Try.ntmps47]) (by simp [noOb]) ?_
    intro C hC
    rw [Try.ntmps47]
    refine awp_seq ?_
    refine awp_region ?_
    refine r_box rfl (by conv => lhs; whnf) rfl (by conv => lhs; whnf) rfl rfl ?_
    refine r_box rfl (by conv => lhs; whnf) rfl (by conv => lhs; whnf) rfl rfl ?_
    refine r_assign rfl (by conv => lhs; whnf) rfl ?_
    refine k_nil ?_
    refine k_seq ?_
    refine awp_seq ?_
    refine awp_region ?_
    refine r_fieldAddr rfl yF26_0d (by conv => lhs; whnf) (by conv => lhs; whnf) rfl ?_
    refine r_load1 rfl yA3d (by conv => lhs; whnf) (by conv => lhs; whnf) (by (try simp only [List.take_succ_cons, List.take_zero, List.drop_succ_cons, List.drop_zero, List.take_nil, List.drop_nil, List.nil_append, List.cons_append, List.append_nil, List.length_cons, List.length_nil, List.head?_cons, List.map_cons, List.map_nil, Nat.reduceAdd, Nat.zero_add, List.length_map]); rfl) rfl ?_
    refine r_fieldAddr rfl yF26_0d (by conv => lhs; whnf) (by conv => lhs; whnf) rfl ?_
    refine r_load1 rfl yA3d (by conv => lhs; whnf) (by conv => lhs; whnf) (by (try simp only [List.take_succ_cons, List.take_zero, List.drop_succ_cons, List.drop_zero, List.take_nil, List.drop_nil, List.nil_append, List.cons_append, List.append_nil, List.length_cons, List.length_nil, List.head?_cons, List.map_cons, List.map_nil, Nat.reduceAdd, Nat.zero_add, List.length_map]); rfl) rfl ?_
    refine r_bin rfl (by conv => lhs; whnf) (by conv => lhs; whnf) (by simp only [abin, reduceIte, ne_eq, decide_not, Bool.not_true, Bool.not_false]; rfl) rfl ?_
    refine r_move rfl (by conv => lhs; whnf) rfl ?_
    refine g_split (d := 10) (by conv => lhs; whnf) (fun hg1 => ?_) (fun hg1 => ?_)
    · rw [hg1]
      refine r_fieldAddr rfl yF26_1d (by conv => lhs; whnf) (by conv => lhs; whnf) rfl ?_
      refine r_load1 rfl yA9d (by conv => lhs; whnf) (by conv => lhs; whnf) (by (try simp only [List.take_succ_cons, List.take_zero, List.drop_succ_cons, List.drop_zero, List.take_nil, List.drop_nil, List.nil_append, List.cons_append, List.append_nil, List.length_cons, List.length_nil, List.head?_cons, List.map_cons, List.map_nil, Nat.reduceAdd, Nat.zero_add, List.length_map]); rfl) rfl ?_
      refine r_fieldAddr rfl yF26_1d (by conv => lhs; whnf) (by conv => lhs; whnf) rfl ?_
      refine r_load1 rfl yA9d (by conv => lhs; whnf) (by conv => lhs; whnf) (by (try simp only [List.take_succ_cons, List.take_zero, List.drop_succ_cons, List.drop_zero, List.take_nil, List.drop_nil, List.nil_append, List.cons_append, List.append_nil, List.length_cons, List.length_nil, List.head?_cons, List.map_cons, List.map_nil, Nat.reduceAdd, Nat.zero_add, List.length_map]); rfl) rfl ?_
      refine r_bin rfl (by conv => lhs; whnf) (by conv => lhs; whnf) (by simp only [abin, reduceIte, ne_eq, decide_not, Bool.not_true, Bool.not_false]; rfl) rfl ?_
      refine r_pick rfl (by conv => lhs; whnf) (by conv => lhs; whnf) rfl ?_
      refine r_move rfl (by conv => lhs; whnf) rfl ?_
      refine g_split (d := 17) (by conv => lhs; whnf) (fun hg2 => ?_) (fun hg2 => ?_)
      · rw [hg2]
        refine r_fieldAddr rfl yF26_2d (by conv => lhs; whnf) (by conv => lhs; whnf) rfl ?_
        refine r_load1 rfl yA3d (by conv => lhs; whnf) (by conv => lhs; whnf) (by (try simp only [List.take_succ_cons, List.take_zero, List.drop_succ_cons, List.drop_zero, List.take_nil, List.drop_nil, List.nil_append, List.cons_append, List.append_nil, List.length_cons, List.length_nil, List.head?_cons, List.map_cons, List.map_nil, Nat.reduceAdd, Nat.zero_add, List.length_map]); rfl) rfl ?_
        refine r_fieldAddr rfl yF26_2d (by conv => lhs; whnf) (by conv => lhs; whnf) rfl ?_
        refine r_load1 rfl yA3d (by conv => lhs; whnf) (by conv => lhs; whnf) (by (try simp only [List.take_succ_cons, List.take_zero, List.drop_succ_cons, List.drop_zero, List.take_nil, List.drop_nil, List.nil_append, List.cons_append, List.append_nil, List.length_cons, List.length_nil, List.head?_cons, List.map_cons, List.map_nil, Nat.reduceAdd, Nat.zero_add, List.length_map]); rfl) rfl ?_
        refine r_bin rfl (by conv => lhs; whnf) (by conv => lhs; whnf) (by simp only [abin, reduceIte, ne_eq, decide_not, Bool.not_true, Bool.not_false]; rfl) rfl ?_
        refine r_pick rfl (by conv => lhs; whnf) (by conv => lhs; whnf) rfl ?_
        refine r_move rfl (by conv => lhs; whnf) rfl ?_
        refine g_split (d := 24) (by conv => lhs; whnf) (fun hg3 => ?_) (fun hg3 => ?_)
        · rw [hg3]
          refine r_fieldAddr rfl yF26_3d (by conv => lhs; whnf) (by conv => lhs; whnf) rfl ?_
          refine r_load1 rfl yA23d (by conv => lhs; whnf) (by conv => lhs; whnf) (by (try simp only [List.take_succ_cons, List.take_zero, List.drop_succ_cons, List.drop_zero, List.take_nil, List.drop_nil, List.nil_append, List.cons_append, List.append_nil, List.length_cons, List.length_nil, List.head?_cons, List.map_cons, List.map_nil, Nat.reduceAdd, Nat.zero_add, List.length_map]); rfl) rfl ?_
          refine r_fieldAddr rfl yF26_3d (by conv => lhs; whnf) (by conv => lhs; whnf) rfl ?_
          refine r_load1 rfl yA23d (by conv => lhs; whnf) (by conv => lhs; whnf) (by (try simp only [List.take_succ_cons, List.take_zero, List.drop_succ_cons, List.drop_zero, List.take_nil, List.drop_nil, List.nil_append, List.cons_append, List.append_nil, List.length_cons, List.length_nil, List.head?_cons, List.map_cons, List.map_nil, Nat.reduceAdd, Nat.zero_add, List.length_map]); rfl) rfl ?_
          have hk4 := equalInts_ok scopes z_scopes (by omega) (by omega)
          refine r_pure [] rfl rfl rfl (by conv => lhs; whnf) (by simp only [ev_tmp, ev_const, ev_func, upd_at, slots_cons, slots_nil, objs_cons, objs_nil, Nat.reduceLT, Nat.reduceEqDiff, Nat.reduceAdd, reduceIte, if_true, if_false, ofVal, ofS, noOb, reduceCtorEq, List.take_succ_cons, List.take_zero, List.drop_succ_cons, List.drop_zero, List.take_nil, List.drop_nil, List.nil_append, List.cons_append, List.append_nil, List.length_cons, List.length_nil, List.head?_cons, List.map_cons, List.map_nil, Nat.reduceAdd, Nat.zero_add, List.length_map, List.toList_toArray]; rfl) (by simp only [fzU, ev_tmp, ev_const, ev_func, upd_at, slots_cons, slots_nil, objs_cons, objs_nil, Nat.reduceLT, Nat.reduceEqDiff, Nat.reduceAdd, reduceIte, if_true, if_false, ofVal, ofS, noOb, reduceCtorEq]; rfl) (by simp only [app]; rfl) (hk4) (by exact ⟨(by first | exact pass_id rfl | exact pass_id (ids_row _) | exact .inr (.inl ⟨_, rfl, rfl, by simp [fz]⟩) | exact .inr (.inr ⟨_, _, rfl, rfl, rfl, by simp [fz]⟩)), (by first | exact pass_id rfl | exact pass_id (ids_row _) | exact .inr (.inl ⟨_, rfl, rfl, by simp [fz]⟩) | exact .inr (.inr ⟨_, _, rfl, rfl, rfl, by simp [fz]⟩)), trivial⟩) rfl ?_
          refine r_pick rfl (by conv => lhs; whnf) (by conv => lhs; whnf) rfl ?_
          refine r_move rfl (by conv => lhs; whnf) rfl ?_
          refine g_split (d := 31) (by conv => lhs; whnf) (fun hg5 => ?_) (fun hg5 => ?_)
          · rw [hg5]
            refine r_fieldAddr rfl yF26_4d (by conv => lhs; whnf) (by conv => lhs; whnf) rfl ?_
            refine r_load1 rfl yA24d (by conv => lhs; whnf) (by conv => lhs; whnf) (by (try simp only [List.take_succ_cons, List.take_zero, List.drop_succ_cons, List.drop_zero, List.take_nil, List.drop_nil, List.nil_append, List.cons_append, List.append_nil, List.length_cons, List.length_nil, List.head?_cons, List.map_cons, List.map_nil, Nat.reduceAdd, Nat.zero_add, List.length_map]); rfl) rfl ?_
            refine r_fieldAddr rfl yF26_4d (by conv => lhs; whnf) (by conv => lhs; whnf) rfl ?_
            refine r_load1 rfl yA24d (by conv => lhs; whnf) (by conv => lhs; whnf) (by (try simp only [List.take_succ_cons, List.take_zero, List.drop_succ_cons, List.drop_zero, List.take_nil, List.drop_nil, List.nil_append, List.cons_append, List.append_nil, List.length_cons, List.length_nil, List.head?_cons, List.map_cons, List.map_nil, Nat.reduceAdd, Nat.zero_add, List.length_map]); rfl) rfl ?_
            have hk6 := equalForms_of kids z_kids (fun x hx y => formSame_ok x y) (by simp only [T.wt, List.length_map]; omega) (by simp only [T.wt, List.length_map]; omega)
            refine r_pure [] rfl rfl rfl (by conv => lhs; whnf) (by simp only [ev_tmp, ev_const, ev_func, upd_at, slots_cons, slots_nil, objs_cons, objs_nil, Nat.reduceLT, Nat.reduceEqDiff, Nat.reduceAdd, reduceIte, if_true, if_false, ofVal, ofS, noOb, reduceCtorEq, List.take_succ_cons, List.take_zero, List.drop_succ_cons, List.drop_zero, List.take_nil, List.drop_nil, List.nil_append, List.cons_append, List.append_nil, List.length_cons, List.length_nil, List.head?_cons, List.map_cons, List.map_nil, Nat.reduceAdd, Nat.zero_add, List.length_map, List.toList_toArray]; rfl) (by simp only [fzU, ev_tmp, ev_const, ev_func, upd_at, slots_cons, slots_nil, objs_cons, objs_nil, Nat.reduceLT, Nat.reduceEqDiff, Nat.reduceAdd, reduceIte, if_true, if_false, ofVal, ofS, noOb, reduceCtorEq]; rfl) (by simp only [app]; rfl) (hk6) (by exact ⟨(by first | exact pass_id rfl | exact pass_id (ids_row _) | exact .inr (.inl ⟨_, rfl, rfl, by simp [fz]⟩) | exact .inr (.inr ⟨_, _, rfl, rfl, rfl, by simp [fz]⟩)), (by first | exact pass_id rfl | exact pass_id (ids_row _) | exact .inr (.inl ⟨_, rfl, rfl, by simp [fz]⟩) | exact .inr (.inr ⟨_, _, rfl, rfl, rfl, by simp [fz]⟩)), (by first | exact pass_id rfl | exact pass_id (ids_row _) | exact .inr (.inl ⟨_, rfl, rfl, by simp [fz]⟩) | exact .inr (.inr ⟨_, _, rfl, rfl, rfl, by simp [fz]⟩)), trivial⟩) rfl ?_
            refine r_pick rfl (by conv => lhs; whnf) (by conv => lhs; whnf) rfl ?_
            refine r_assign rfl (by conv => lhs; whnf) rfl ?_
            refine k_nil ?_
            refine k_seq ?_
            refine awp_ret ?_
            refine k_fin ?_
            refine ends_pure [] (by simp only [Try.results47, resOf, ev_tmp, ev_const, ev_func, upd_at, slots_cons, slots_nil, objs_cons, objs_nil, Nat.reduceLT, Nat.reduceEqDiff, Nat.reduceAdd, reduceIte, if_true, if_false, ofVal, ofS, noOb, reduceCtorEq]; rfl) (by
              refine ⟨.inl (congrArg (fun b => V.t (.sc (.bool b))) ?_), trivial⟩
              rw [Bool.eq_iff_iff]
              simp only [eqb_iff, Bool.false_eq_true, decide_eq_true_eq, Core.mk.injEq, Form.mk.injEq, Step.mk.injEq, Bind.mk.injEq, Hit.mk.injEq, Rule.mk.injEq, Macro.mk.injEq, Expansion.mk.injEq]
              simp_all [eqb_iff, eqb_not, -List.map_inj_left] <;> (try (intro e; subst e; simp_all))) (by simp [V.idsL, V.ids])
          · rw [hg5]
            refine r_no rfl ?_
            refine r_no rfl ?_
            refine r_no rfl ?_
            refine r_no rfl ?_
            refine r_no rfl ?_
            refine r_pick rfl (by conv => lhs; whnf) (by conv => lhs; whnf) rfl ?_
            refine r_assign rfl (by conv => lhs; whnf) rfl ?_
            refine k_nil ?_
            refine k_seq ?_
            refine awp_ret ?_
            refine k_fin ?_
            refine ends_pure [] (by simp only [Try.results47, resOf, ev_tmp, ev_const, ev_func, upd_at, slots_cons, slots_nil, objs_cons, objs_nil, Nat.reduceLT, Nat.reduceEqDiff, Nat.reduceAdd, reduceIte, if_true, if_false, ofVal, ofS, noOb, reduceCtorEq]; rfl) (by
              refine ⟨.inl (congrArg (fun b => V.t (.sc (.bool b))) ?_), trivial⟩
              rw [Bool.eq_iff_iff]
              simp only [eqb_iff, Bool.false_eq_true, decide_eq_true_eq, Core.mk.injEq, Form.mk.injEq, Step.mk.injEq, Bind.mk.injEq, Hit.mk.injEq, Rule.mk.injEq, Macro.mk.injEq, Expansion.mk.injEq]
              simp_all [eqb_iff, eqb_not, -List.map_inj_left] <;> (try (intro e; subst e; simp_all))) (by simp [V.idsL, V.ids])
        · rw [hg3]
          refine r_no rfl ?_
          refine r_no rfl ?_
          refine r_no rfl ?_
          refine r_no rfl ?_
          refine r_no rfl ?_
          refine r_pick rfl (by conv => lhs; whnf) (by conv => lhs; whnf) rfl ?_
          refine r_move rfl (by conv => lhs; whnf) rfl ?_
          refine r_no rfl ?_
          refine r_no rfl ?_
          refine r_no rfl ?_
          refine r_no rfl ?_
          refine r_no rfl ?_
          refine r_pick rfl (by conv => lhs; whnf) (by conv => lhs; whnf) rfl ?_
          refine r_assign rfl (by conv => lhs; whnf) rfl ?_
          refine k_nil ?_
          refine k_seq ?_
          refine awp_ret ?_
          refine k_fin ?_
          refine ends_pure [] (by simp only [Try.results47, resOf, ev_tmp, ev_const, ev_func, upd_at, slots_cons, slots_nil, objs_cons, objs_nil, Nat.reduceLT, Nat.reduceEqDiff, Nat.reduceAdd, reduceIte, if_true, if_false, ofVal, ofS, noOb, reduceCtorEq]; rfl) (by
            refine ⟨.inl (congrArg (fun b => V.t (.sc (.bool b))) ?_), trivial⟩
            rw [Bool.eq_iff_iff]
            simp only [eqb_iff, Bool.false_eq_true, decide_eq_true_eq, Core.mk.injEq, Form.mk.injEq, Step.mk.injEq, Bind.mk.injEq, Hit.mk.injEq, Rule.mk.injEq, Macro.mk.injEq, Expansion.mk.injEq]
            simp_all [eqb_iff, eqb_not, -List.map_inj_left] <;> (try (intro e; subst e; simp_all))) (by simp [V.idsL, V.ids])
      · rw [hg2]
        refine r_no rfl ?_
        refine r_no rfl ?_
        refine r_no rfl ?_
        refine r_no rfl ?_
        refine r_no rfl ?_
        refine r_pick rfl (by conv => lhs; whnf) (by conv => lhs; whnf) rfl ?_
        refine r_move rfl (by conv => lhs; whnf) rfl ?_
        refine r_no rfl ?_
        refine r_no rfl ?_
        refine r_no rfl ?_
        refine r_no rfl ?_
        refine r_no rfl ?_
        refine r_pick rfl (by conv => lhs; whnf) (by conv => lhs; whnf) rfl ?_
        refine r_move rfl (by conv => lhs; whnf) rfl ?_
        refine r_no rfl ?_
        refine r_no rfl ?_
        refine r_no rfl ?_
        refine r_no rfl ?_
        refine r_no rfl ?_
        refine r_pick rfl (by conv => lhs; whnf) (by conv => lhs; whnf) rfl ?_
        refine r_assign rfl (by conv => lhs; whnf) rfl ?_
        refine k_nil ?_
        refine k_seq ?_
        refine awp_ret ?_
        refine k_fin ?_
        refine ends_pure [] (by simp only [Try.results47, resOf, ev_tmp, ev_const, ev_func, upd_at, slots_cons, slots_nil, objs_cons, objs_nil, Nat.reduceLT, Nat.reduceEqDiff, Nat.reduceAdd, reduceIte, if_true, if_false, ofVal, ofS, noOb, reduceCtorEq]; rfl) (by
          refine ⟨.inl (congrArg (fun b => V.t (.sc (.bool b))) ?_), trivial⟩
          rw [Bool.eq_iff_iff]
          simp only [eqb_iff, Bool.false_eq_true, decide_eq_true_eq, Core.mk.injEq, Form.mk.injEq, Step.mk.injEq, Bind.mk.injEq, Hit.mk.injEq, Rule.mk.injEq, Macro.mk.injEq, Expansion.mk.injEq]
          simp_all [eqb_iff, eqb_not, -List.map_inj_left] <;> (try (intro e; subst e; simp_all))) (by simp [V.idsL, V.ids])
    · rw [hg1]
      refine r_no rfl ?_
      refine r_no rfl ?_
      refine r_no rfl ?_
      refine r_no rfl ?_
      refine r_no rfl ?_
      refine r_pick rfl (by conv => lhs; whnf) (by conv => lhs; whnf) rfl ?_
      refine r_move rfl (by conv => lhs; whnf) rfl ?_
      refine r_no rfl ?_
      refine r_no rfl ?_
      refine r_no rfl ?_
      refine r_no rfl ?_
      refine r_no rfl ?_
      refine r_pick rfl (by conv => lhs; whnf) (by conv => lhs; whnf) rfl ?_
      refine r_move rfl (by conv => lhs; whnf) rfl ?_
      refine r_no rfl ?_
      refine r_no rfl ?_
      refine r_no rfl ?_
      refine r_no rfl ?_
      refine r_no rfl ?_
      refine r_pick rfl (by conv => lhs; whnf) (by conv => lhs; whnf) rfl ?_
      refine r_move rfl (by conv => lhs; whnf) rfl ?_
      refine r_no rfl ?_
      refine r_no rfl ?_
      refine r_no rfl ?_
      refine r_no rfl ?_
      refine r_no rfl ?_
      refine r_pick rfl (by conv => lhs; whnf) (by conv => lhs; whnf) rfl ?_
      refine r_assign rfl (by conv => lhs; whnf) rfl ?_
      refine k_nil ?_
      refine k_seq ?_
      refine awp_ret ?_
      refine k_fin ?_
      refine ends_pure [] (by simp only [Try.results47, resOf, ev_tmp, ev_const, ev_func, upd_at, slots_cons, slots_nil, objs_cons, objs_nil, Nat.reduceLT, Nat.reduceEqDiff, Nat.reduceAdd, reduceIte, if_true, if_false, ofVal, ofS, noOb, reduceCtorEq]; rfl) (by
        refine ⟨.inl (congrArg (fun b => V.t (.sc (.bool b))) ?_), trivial⟩
        rw [Bool.eq_iff_iff]
        simp only [eqb_iff, Bool.false_eq_true, decide_eq_true_eq, Core.mk.injEq, Form.mk.injEq, Step.mk.injEq, Bind.mk.injEq, Hit.mk.injEq, Rule.mk.injEq, Macro.mk.injEq, Expansion.mk.injEq]
        simp_all [eqb_iff, eqb_not, -List.map_inj_left] <;> (try (intro e; subst e; simp_all))) (by simp [V.idsL, V.ids])
termination_by a => SizeOf.sizeOf a
decreasing_by all_goals (have := List.sizeOf_lt_of_mem (by assumption); simp only [Form.mk.sizeOf_spec]; omega)
theorem sameCore_ok : ∀ (a b : Core), T.wtL a.row ≤ 2 ^ 30 → T.wtL b.row ≤ 2 ^ 30 → AC Try.prog 35 [.ag (a.row.map .t), .ag (b.row.map .t)] noOb (vb (eqb a b)) noOb
  | (Core.mk kind id name n ids (Form.mk data_kind data_name data_n data_scopes data_kids) kids), (Core.mk z_kind z_id z_name z_n z_ids (Form.mk z_data_kind z_data_name z_data_n z_data_scopes z_data_kids) z_kids), hl, hr => by
    rw [Core.row_mk] at hl hr ⊢
    rw [Core.row_mk]
    simp only [T.wtL, T.wt, S.wt, T.wtR_ints, List.length_map] at hl hr
    refine AC_intro (rs := [_]) Try.func35 rfl (by kernel_rfl) (by simp [Try.ntmps35]) (by simp [noOb]) ?_
    intro C hC
    rw [Try.ntmps35]
    refine awp_seq ?_
    refine awp_region ?_
    refine r_box rfl (by conv => lhs; whnf) rfl (by conv => lhs; whnf) rfl rfl ?_
    refine r_box rfl (by conv => lhs; whnf) rfl (by conv => lhs; whnf) rfl rfl ?_
    refine r_assign rfl (by conv => lhs; whnf) rfl ?_
    refine k_nil ?_
    refine k_seq ?_
    refine awp_seq ?_
    refine awp_region ?_
    refine r_fieldAddr rfl yF29_0d (by conv => lhs; whnf) (by conv => lhs; whnf) rfl ?_
    refine r_load1 rfl yA3d (by conv => lhs; whnf) (by conv => lhs; whnf) (by (try simp only [List.take_succ_cons, List.take_zero, List.drop_succ_cons, List.drop_zero, List.take_nil, List.drop_nil, List.nil_append, List.cons_append, List.append_nil, List.length_cons, List.length_nil, List.head?_cons, List.map_cons, List.map_nil, Nat.reduceAdd, Nat.zero_add, List.length_map]); rfl) rfl ?_
    refine r_fieldAddr rfl yF29_0d (by conv => lhs; whnf) (by conv => lhs; whnf) rfl ?_
    refine r_load1 rfl yA3d (by conv => lhs; whnf) (by conv => lhs; whnf) (by (try simp only [List.take_succ_cons, List.take_zero, List.drop_succ_cons, List.drop_zero, List.take_nil, List.drop_nil, List.nil_append, List.cons_append, List.append_nil, List.length_cons, List.length_nil, List.head?_cons, List.map_cons, List.map_nil, Nat.reduceAdd, Nat.zero_add, List.length_map]); rfl) rfl ?_
    refine r_bin rfl (by conv => lhs; whnf) (by conv => lhs; whnf) (by simp only [abin, reduceIte, ne_eq, decide_not, Bool.not_true, Bool.not_false]; rfl) rfl ?_
    refine r_move rfl (by conv => lhs; whnf) rfl ?_
    refine g_split (d := 10) (by conv => lhs; whnf) (fun hg1 => ?_) (fun hg1 => ?_)
    · rw [hg1]
      refine r_fieldAddr rfl yF29_1d (by conv => lhs; whnf) (by conv => lhs; whnf) rfl ?_
      refine r_load1 rfl yA3d (by conv => lhs; whnf) (by conv => lhs; whnf) (by (try simp only [List.take_succ_cons, List.take_zero, List.drop_succ_cons, List.drop_zero, List.take_nil, List.drop_nil, List.nil_append, List.cons_append, List.append_nil, List.length_cons, List.length_nil, List.head?_cons, List.map_cons, List.map_nil, Nat.reduceAdd, Nat.zero_add, List.length_map]); rfl) rfl ?_
      refine r_fieldAddr rfl yF29_1d (by conv => lhs; whnf) (by conv => lhs; whnf) rfl ?_
      refine r_load1 rfl yA3d (by conv => lhs; whnf) (by conv => lhs; whnf) (by (try simp only [List.take_succ_cons, List.take_zero, List.drop_succ_cons, List.drop_zero, List.take_nil, List.drop_nil, List.nil_append, List.cons_append, List.append_nil, List.length_cons, List.length_nil, List.head?_cons, List.map_cons, List.map_nil, Nat.reduceAdd, Nat.zero_add, List.length_map]); rfl) rfl ?_
      refine r_bin rfl (by conv => lhs; whnf) (by conv => lhs; whnf) (by simp only [abin, reduceIte, ne_eq, decide_not, Bool.not_true, Bool.not_false]; rfl) rfl ?_
      refine r_pick rfl (by conv => lhs; whnf) (by conv => lhs; whnf) rfl ?_
      refine r_move rfl (by conv => lhs; whnf) rfl ?_
      refine g_split (d := 17) (by conv => lhs; whnf) (fun hg2 => ?_) (fun hg2 => ?_)
      · rw [hg2]
        refine r_fieldAddr rfl yF29_2d (by conv => lhs; whnf) (by conv => lhs; whnf) rfl ?_
        refine r_load1 rfl yA9d (by conv => lhs; whnf) (by conv => lhs; whnf) (by (try simp only [List.take_succ_cons, List.take_zero, List.drop_succ_cons, List.drop_zero, List.take_nil, List.drop_nil, List.nil_append, List.cons_append, List.append_nil, List.length_cons, List.length_nil, List.head?_cons, List.map_cons, List.map_nil, Nat.reduceAdd, Nat.zero_add, List.length_map]); rfl) rfl ?_
        refine r_fieldAddr rfl yF29_2d (by conv => lhs; whnf) (by conv => lhs; whnf) rfl ?_
        refine r_load1 rfl yA9d (by conv => lhs; whnf) (by conv => lhs; whnf) (by (try simp only [List.take_succ_cons, List.take_zero, List.drop_succ_cons, List.drop_zero, List.take_nil, List.drop_nil, List.nil_append, List.cons_append, List.append_nil, List.length_cons, List.length_nil, List.head?_cons, List.map_cons, List.map_nil, Nat.reduceAdd, Nat.zero_add, List.length_map]); rfl) rfl ?_
        refine r_bin rfl (by conv => lhs; whnf) (by conv => lhs; whnf) (by simp only [abin, reduceIte, ne_eq, decide_not, Bool.not_true, Bool.not_false]; rfl) rfl ?_
        refine r_pick rfl (by conv => lhs; whnf) (by conv => lhs; whnf) rfl ?_
        refine r_move rfl (by conv => lhs; whnf) rfl ?_
        refine g_split (d := 24) (by conv => lhs; whnf) (fun hg3 => ?_) (fun hg3 => ?_)
        · rw [hg3]
          refine r_fieldAddr rfl yF29_3d (by conv => lhs; whnf) (by conv => lhs; whnf) rfl ?_
          refine r_load1 rfl yA3d (by conv => lhs; whnf) (by conv => lhs; whnf) (by (try simp only [List.take_succ_cons, List.take_zero, List.drop_succ_cons, List.drop_zero, List.take_nil, List.drop_nil, List.nil_append, List.cons_append, List.append_nil, List.length_cons, List.length_nil, List.head?_cons, List.map_cons, List.map_nil, Nat.reduceAdd, Nat.zero_add, List.length_map]); rfl) rfl ?_
          refine r_fieldAddr rfl yF29_3d (by conv => lhs; whnf) (by conv => lhs; whnf) rfl ?_
          refine r_load1 rfl yA3d (by conv => lhs; whnf) (by conv => lhs; whnf) (by (try simp only [List.take_succ_cons, List.take_zero, List.drop_succ_cons, List.drop_zero, List.take_nil, List.drop_nil, List.nil_append, List.cons_append, List.append_nil, List.length_cons, List.length_nil, List.head?_cons, List.map_cons, List.map_nil, Nat.reduceAdd, Nat.zero_add, List.length_map]); rfl) rfl ?_
          refine r_bin rfl (by conv => lhs; whnf) (by conv => lhs; whnf) (by simp only [abin, reduceIte, ne_eq, decide_not, Bool.not_true, Bool.not_false]; rfl) rfl ?_
          refine r_pick rfl (by conv => lhs; whnf) (by conv => lhs; whnf) rfl ?_
          refine r_move rfl (by conv => lhs; whnf) rfl ?_
          refine g_split (d := 31) (by conv => lhs; whnf) (fun hg4 => ?_) (fun hg4 => ?_)
          · rw [hg4]
            refine r_fieldAddr rfl yF29_4d (by conv => lhs; whnf) (by conv => lhs; whnf) rfl ?_
            refine r_load1 rfl yA23d (by conv => lhs; whnf) (by conv => lhs; whnf) (by (try simp only [List.take_succ_cons, List.take_zero, List.drop_succ_cons, List.drop_zero, List.take_nil, List.drop_nil, List.nil_append, List.cons_append, List.append_nil, List.length_cons, List.length_nil, List.head?_cons, List.map_cons, List.map_nil, Nat.reduceAdd, Nat.zero_add, List.length_map]); rfl) rfl ?_
            refine r_fieldAddr rfl yF29_4d (by conv => lhs; whnf) (by conv => lhs; whnf) rfl ?_
            refine r_load1 rfl yA23d (by conv => lhs; whnf) (by conv => lhs; whnf) (by (try simp only [List.take_succ_cons, List.take_zero, List.drop_succ_cons, List.drop_zero, List.take_nil, List.drop_nil, List.nil_append, List.cons_append, List.append_nil, List.length_cons, List.length_nil, List.head?_cons, List.map_cons, List.map_nil, Nat.reduceAdd, Nat.zero_add, List.length_map]); rfl) rfl ?_
            have hk5 := equalInts_ok ids z_ids (by omega) (by omega)
            refine r_pure [] rfl rfl rfl (by conv => lhs; whnf) (by simp only [ev_tmp, ev_const, ev_func, upd_at, slots_cons, slots_nil, objs_cons, objs_nil, Nat.reduceLT, Nat.reduceEqDiff, Nat.reduceAdd, reduceIte, if_true, if_false, ofVal, ofS, noOb, reduceCtorEq, List.take_succ_cons, List.take_zero, List.drop_succ_cons, List.drop_zero, List.take_nil, List.drop_nil, List.nil_append, List.cons_append, List.append_nil, List.length_cons, List.length_nil, List.head?_cons, List.map_cons, List.map_nil, Nat.reduceAdd, Nat.zero_add, List.length_map, List.toList_toArray]; rfl) (by simp only [fzU, ev_tmp, ev_const, ev_func, upd_at, slots_cons, slots_nil, objs_cons, objs_nil, Nat.reduceLT, Nat.reduceEqDiff, Nat.reduceAdd, reduceIte, if_true, if_false, ofVal, ofS, noOb, reduceCtorEq]; rfl) (by simp only [app]; rfl) (hk5) (by exact ⟨(by first | exact pass_id rfl | exact pass_id (ids_row _) | exact .inr (.inl ⟨_, rfl, rfl, by simp [fz]⟩) | exact .inr (.inr ⟨_, _, rfl, rfl, rfl, by simp [fz]⟩)), (by first | exact pass_id rfl | exact pass_id (ids_row _) | exact .inr (.inl ⟨_, rfl, rfl, by simp [fz]⟩) | exact .inr (.inr ⟨_, _, rfl, rfl, rfl, by simp [fz]⟩)), trivial⟩) rfl ?_
            refine r_pick rfl (by conv => lhs; whnf) (by conv => lhs; whnf) rfl ?_
            refine r_move rfl (by conv => lhs; whnf) rfl ?_
            refine g_split (d := 38) (by conv => lhs; whnf) (fun hg6 => ?_) (fun hg6 => ?_)
            · rw [hg6]
              refine r_fieldAddr rfl yF29_5d (by conv => lhs; whnf) (by conv => lhs; whnf) rfl ?_
              refine r_loadN rfl yA26d yS26d (by conv => lhs; whnf) (by conv => lhs; whnf) (by simp only [List.take_succ_cons, List.take_zero, List.drop_succ_cons, List.drop_zero, List.take_nil, List.drop_nil, List.nil_append, List.cons_append, List.append_nil, List.length_cons, List.length_nil, List.head?_cons, List.map_cons, List.map_nil, Nat.reduceAdd, Nat.zero_add, List.length_map]; omega) (by (try simp only [List.take_succ_cons, List.take_zero, List.drop_succ_cons, List.drop_zero, List.take_nil, List.drop_nil, List.nil_append, List.cons_append, List.append_nil, List.length_cons, List.length_nil, List.head?_cons, List.map_cons, List.map_nil, Nat.reduceAdd, Nat.zero_add, List.length_map]); rfl) rfl ?_
              refine r_fieldAddr rfl yF29_5d (by conv => lhs; whnf) (by conv => lhs; whnf) rfl ?_
              refine r_loadN rfl yA26d yS26d (by conv => lhs; whnf) (by conv => lhs; whnf) (by simp only [List.take_succ_cons, List.take_zero, List.drop_succ_cons, List.drop_zero, List.take_nil, List.drop_nil, List.nil_append, List.cons_append, List.append_nil, List.length_cons, List.length_nil, List.head?_cons, List.map_cons, List.map_nil, Nat.reduceAdd, Nat.zero_add, List.length_map]; omega) (by (try simp only [List.take_succ_cons, List.take_zero, List.drop_succ_cons, List.drop_zero, List.take_nil, List.drop_nil, List.nil_append, List.cons_append, List.append_nil, List.length_cons, List.length_nil, List.head?_cons, List.map_cons, List.map_nil, Nat.reduceAdd, Nat.zero_add, List.length_map]); rfl) rfl ?_
              have hk7 := formSame_ok (Form.mk data_kind data_name data_n data_scopes data_kids) (Form.mk z_data_kind z_data_name z_data_n z_data_scopes z_data_kids) (by rw [Form.row_mk]; simp only [T.wtL, T.wt, S.wt, T.wtR_ints, List.length_map]; omega) (by rw [Form.row_mk]; simp only [T.wtL, T.wt, S.wt, T.wtR_ints, List.length_map]; omega)
              rw [Form.row_mk, Form.row_mk] at hk7
              refine r_pure [] rfl rfl rfl (by conv => lhs; whnf) (by simp only [ev_tmp, ev_const, ev_func, upd_at, slots_cons, slots_nil, objs_cons, objs_nil, Nat.reduceLT, Nat.reduceEqDiff, Nat.reduceAdd, reduceIte, if_true, if_false, ofVal, ofS, noOb, reduceCtorEq, List.take_succ_cons, List.take_zero, List.drop_succ_cons, List.drop_zero, List.take_nil, List.drop_nil, List.nil_append, List.cons_append, List.append_nil, List.length_cons, List.length_nil, List.head?_cons, List.map_cons, List.map_nil, Nat.reduceAdd, Nat.zero_add, List.length_map, List.toList_toArray]; rfl) (by simp only [fzU, ev_tmp, ev_const, ev_func, upd_at, slots_cons, slots_nil, objs_cons, objs_nil, Nat.reduceLT, Nat.reduceEqDiff, Nat.reduceAdd, reduceIte, if_true, if_false, ofVal, ofS, noOb, reduceCtorEq]; rfl) (by simp only [app]; rfl) (hk7) (by exact ⟨(by first | exact pass_id rfl | exact pass_id (ids_row _) | exact .inr (.inl ⟨_, rfl, rfl, by simp [fz]⟩) | exact .inr (.inr ⟨_, _, rfl, rfl, rfl, by simp [fz]⟩)), (by first | exact pass_id rfl | exact pass_id (ids_row _) | exact .inr (.inl ⟨_, rfl, rfl, by simp [fz]⟩) | exact .inr (.inr ⟨_, _, rfl, rfl, rfl, by simp [fz]⟩)), trivial⟩) rfl ?_
              refine r_pick rfl (by conv => lhs; whnf) (by conv => lhs; whnf) rfl ?_
              refine r_move rfl (by conv => lhs; whnf) rfl ?_
              refine g_split (d := 45) (by conv => lhs; whnf) (fun hg8 => ?_) (fun hg8 => ?_)
              · rw [hg8]
                refine r_fieldAddr rfl yF29_6d (by conv => lhs; whnf) (by conv => lhs; whnf) rfl ?_
                refine r_load1 rfl yA27d (by conv => lhs; whnf) (by conv => lhs; whnf) (by (try simp only [List.take_succ_cons, List.take_zero, List.drop_succ_cons, List.drop_zero, List.take_nil, List.drop_nil, List.nil_append, List.cons_append, List.append_nil, List.length_cons, List.length_nil, List.head?_cons, List.map_cons, List.map_nil, Nat.reduceAdd, Nat.zero_add, List.length_map]); rfl) rfl ?_
                refine r_fieldAddr rfl yF29_6d (by conv => lhs; whnf) (by conv => lhs; whnf) rfl ?_
                refine r_load1 rfl yA27d (by conv => lhs; whnf) (by conv => lhs; whnf) (by (try simp only [List.take_succ_cons, List.take_zero, List.drop_succ_cons, List.drop_zero, List.take_nil, List.drop_nil, List.nil_append, List.cons_append, List.append_nil, List.length_cons, List.length_nil, List.head?_cons, List.map_cons, List.map_nil, Nat.reduceAdd, Nat.zero_add, List.length_map]); rfl) rfl ?_
                have hk9 := equalCores_of kids z_kids (fun x hx y => sameCore_ok x y) (by simp only [T.wt, List.length_map]; omega) (by simp only [T.wt, List.length_map]; omega)
                refine r_pure [] rfl rfl rfl (by conv => lhs; whnf) (by simp only [ev_tmp, ev_const, ev_func, upd_at, slots_cons, slots_nil, objs_cons, objs_nil, Nat.reduceLT, Nat.reduceEqDiff, Nat.reduceAdd, reduceIte, if_true, if_false, ofVal, ofS, noOb, reduceCtorEq, List.take_succ_cons, List.take_zero, List.drop_succ_cons, List.drop_zero, List.take_nil, List.drop_nil, List.nil_append, List.cons_append, List.append_nil, List.length_cons, List.length_nil, List.head?_cons, List.map_cons, List.map_nil, Nat.reduceAdd, Nat.zero_add, List.length_map, List.toList_toArray]; rfl) (by simp only [fzU, ev_tmp, ev_const, ev_func, upd_at, slots_cons, slots_nil, objs_cons, objs_nil, Nat.reduceLT, Nat.reduceEqDiff, Nat.reduceAdd, reduceIte, if_true, if_false, ofVal, ofS, noOb, reduceCtorEq]; rfl) (by simp only [app]; rfl) (hk9) (by exact ⟨(by first | exact pass_id rfl | exact pass_id (ids_row _) | exact .inr (.inl ⟨_, rfl, rfl, by simp [fz]⟩) | exact .inr (.inr ⟨_, _, rfl, rfl, rfl, by simp [fz]⟩)), (by first | exact pass_id rfl | exact pass_id (ids_row _) | exact .inr (.inl ⟨_, rfl, rfl, by simp [fz]⟩) | exact .inr (.inr ⟨_, _, rfl, rfl, rfl, by simp [fz]⟩)), (by first | exact pass_id rfl | exact pass_id (ids_row _) | exact .inr (.inl ⟨_, rfl, rfl, by simp [fz]⟩) | exact .inr (.inr ⟨_, _, rfl, rfl, rfl, by simp [fz]⟩)), trivial⟩) rfl ?_
                refine r_pick rfl (by conv => lhs; whnf) (by conv => lhs; whnf) rfl ?_
                refine r_assign rfl (by conv => lhs; whnf) rfl ?_
                refine k_nil ?_
                refine k_seq ?_
                refine awp_ret ?_
                refine k_fin ?_
                refine ends_pure [] (by simp only [Try.results35, resOf, ev_tmp, ev_const, ev_func, upd_at, slots_cons, slots_nil, objs_cons, objs_nil, Nat.reduceLT, Nat.reduceEqDiff, Nat.reduceAdd, reduceIte, if_true, if_false, ofVal, ofS, noOb, reduceCtorEq]; rfl) (by
                  refine ⟨.inl (congrArg (fun b => V.t (.sc (.bool b))) ?_), trivial⟩
                  rw [Bool.eq_iff_iff]
                  simp only [eqb_iff, Bool.false_eq_true, decide_eq_true_eq, Core.mk.injEq, Form.mk.injEq, Step.mk.injEq, Bind.mk.injEq, Hit.mk.injEq, Rule.mk.injEq, Macro.mk.injEq, Expansion.mk.injEq]
                  simp_all [eqb_iff, eqb_not, -List.map_inj_left] <;> (try (intro e; subst e; simp_all))) (by simp [V.idsL, V.ids])
              · rw [hg8]
                refine r_no rfl ?_
                refine r_no rfl ?_
                refine r_no rfl ?_
                refine r_no rfl ?_
                refine r_no rfl ?_
                refine r_pick rfl (by conv => lhs; whnf) (by conv => lhs; whnf) rfl ?_
                refine r_assign rfl (by conv => lhs; whnf) rfl ?_
                refine k_nil ?_
                refine k_seq ?_
                refine awp_ret ?_
                refine k_fin ?_
                refine ends_pure [] (by simp only [Try.results35, resOf, ev_tmp, ev_const, ev_func, upd_at, slots_cons, slots_nil, objs_cons, objs_nil, Nat.reduceLT, Nat.reduceEqDiff, Nat.reduceAdd, reduceIte, if_true, if_false, ofVal, ofS, noOb, reduceCtorEq]; rfl) (by
                  refine ⟨.inl (congrArg (fun b => V.t (.sc (.bool b))) ?_), trivial⟩
                  rw [Bool.eq_iff_iff]
                  simp only [eqb_iff, Bool.false_eq_true, decide_eq_true_eq, Core.mk.injEq, Form.mk.injEq, Step.mk.injEq, Bind.mk.injEq, Hit.mk.injEq, Rule.mk.injEq, Macro.mk.injEq, Expansion.mk.injEq]
                  simp_all [eqb_iff, eqb_not, -List.map_inj_left] <;> (try (intro e; subst e; simp_all))) (by simp [V.idsL, V.ids])
            · rw [hg6]
              refine r_no rfl ?_
              refine r_no rfl ?_
              refine r_no rfl ?_
              refine r_no rfl ?_
              refine r_no rfl ?_
              refine r_pick rfl (by conv => lhs; whnf) (by conv => lhs; whnf) rfl ?_
              refine r_move rfl (by conv => lhs; whnf) rfl ?_
              refine r_no rfl ?_
              refine r_no rfl ?_
              refine r_no rfl ?_
              refine r_no rfl ?_
              refine r_no rfl ?_
              refine r_pick rfl (by conv => lhs; whnf) (by conv => lhs; whnf) rfl ?_
              refine r_assign rfl (by conv => lhs; whnf) rfl ?_
              refine k_nil ?_
              refine k_seq ?_
              refine awp_ret ?_
              refine k_fin ?_
              refine ends_pure [] (by simp only [Try.results35, resOf, ev_tmp, ev_const, ev_func, upd_at, slots_cons, slots_nil, objs_cons, objs_nil, Nat.reduceLT, Nat.reduceEqDiff, Nat.reduceAdd, reduceIte, if_true, if_false, ofVal, ofS, noOb, reduceCtorEq]; rfl) (by
                refine ⟨.inl (congrArg (fun b => V.t (.sc (.bool b))) ?_), trivial⟩
                rw [Bool.eq_iff_iff]
                simp only [eqb_iff, Bool.false_eq_true, decide_eq_true_eq, Core.mk.injEq, Form.mk.injEq, Step.mk.injEq, Bind.mk.injEq, Hit.mk.injEq, Rule.mk.injEq, Macro.mk.injEq, Expansion.mk.injEq]
                simp_all [eqb_iff, eqb_not, -List.map_inj_left] <;> (try (intro e; subst e; simp_all))) (by simp [V.idsL, V.ids])
          · rw [hg4]
            refine r_no rfl ?_
            refine r_no rfl ?_
            refine r_no rfl ?_
            refine r_no rfl ?_
            refine r_no rfl ?_
            refine r_pick rfl (by conv => lhs; whnf) (by conv => lhs; whnf) rfl ?_
            refine r_move rfl (by conv => lhs; whnf) rfl ?_
            refine r_no rfl ?_
            refine r_no rfl ?_
            refine r_no rfl ?_
            refine r_no rfl ?_
            refine r_no rfl ?_
            refine r_pick rfl (by conv => lhs; whnf) (by conv => lhs; whnf) rfl ?_
            refine r_move rfl (by conv => lhs; whnf) rfl ?_
            refine r_no rfl ?_
            refine r_no rfl ?_
            refine r_no rfl ?_
            refine r_no rfl ?_
            refine r_no rfl ?_
            refine r_pick rfl (by conv => lhs; whnf) (by conv => lhs; whnf) rfl ?_
            refine r_assign rfl (by conv => lhs; whnf) rfl ?_
            refine k_nil ?_
            refine k_seq ?_
            refine awp_ret ?_
            refine k_fin ?_
            refine ends_pure [] (by simp only [Try.results35, resOf, ev_tmp, ev_const, ev_func, upd_at, slots_cons, slots_nil, objs_cons, objs_nil, Nat.reduceLT, Nat.reduceEqDiff, Nat.reduceAdd, reduceIte, if_true, if_false, ofVal, ofS, noOb, reduceCtorEq]; rfl) (by
              refine ⟨.inl (congrArg (fun b => V.t (.sc (.bool b))) ?_), trivial⟩
              rw [Bool.eq_iff_iff]
              simp only [eqb_iff, Bool.false_eq_true, decide_eq_true_eq, Core.mk.injEq, Form.mk.injEq, Step.mk.injEq, Bind.mk.injEq, Hit.mk.injEq, Rule.mk.injEq, Macro.mk.injEq, Expansion.mk.injEq]
              simp_all [eqb_iff, eqb_not, -List.map_inj_left] <;> (try (intro e; subst e; simp_all))) (by simp [V.idsL, V.ids])
        · rw [hg3]
          refine r_no rfl ?_
          refine r_no rfl ?_
          refine r_no rfl ?_
          refine r_no rfl ?_
          refine r_no rfl ?_
          refine r_pick rfl (by conv => lhs; whnf) (by conv => lhs; whnf) rfl ?_
          refine r_move rfl (by conv => lhs; whnf) rfl ?_
          refine r_no rfl ?_
          refine r_no rfl ?_
          refine r_no rfl ?_
          refine r_no rfl ?_
          refine r_no rfl ?_
          refine r_pick rfl (by conv => lhs; whnf) (by conv => lhs; whnf) rfl ?_
          refine r_move rfl (by conv => lhs; whnf) rfl ?_
          refine r_no rfl ?_
          refine r_no rfl ?_
          refine r_no rfl ?_
          refine r_no rfl ?_
          refine r_no rfl ?_
          refine r_pick rfl (by conv => lhs; whnf) (by conv => lhs; whnf) rfl ?_
          refine r_move rfl (by conv => lhs; whnf) rfl ?_
          refine r_no rfl ?_
          refine r_no rfl ?_
          refine r_no rfl ?_
          refine r_no rfl ?_
          refine r_no rfl ?_
          refine r_pick rfl (by conv => lhs; whnf) (by conv => lhs; whnf) rfl ?_
          refine r_assign rfl (by conv => lhs; whnf) rfl ?_
          refine k_nil ?_
          refine k_seq ?_
          refine awp_ret ?_
          refine k_fin ?_
          refine ends_pure [] (by simp only [Try.results35, resOf, ev_tmp, ev_const, ev_func, upd_at, slots_cons, slots_nil, objs_cons, objs_nil, Nat.reduceLT, Nat.reduceEqDiff, Nat.reduceAdd, reduceIte, if_true, if_false, ofVal, ofS, noOb, reduceCtorEq]; rfl) (by
            refine ⟨.inl (congrArg (fun b => V.t (.sc (.bool b))) ?_), trivial⟩
            rw [Bool.eq_iff_iff]
            simp only [eqb_iff, Bool.false_eq_true, decide_eq_true_eq, Core.mk.injEq, Form.mk.injEq, Step.mk.injEq, Bind.mk.injEq, Hit.mk.injEq, Rule.mk.injEq, Macro.mk.injEq, Expansion.mk.injEq]
            simp_all [eqb_iff, eqb_not, -List.map_inj_left] <;> (try (intro e; subst e; simp_all))) (by simp [V.idsL, V.ids])
      · rw [hg2]
        refine r_no rfl ?_
        refine r_no rfl ?_
        refine r_no rfl ?_
        refine r_no rfl ?_
        refine r_no rfl ?_
        refine r_pick rfl (by conv => lhs; whnf) (by conv => lhs; whnf) rfl ?_
        refine r_move rfl (by conv => lhs; whnf) rfl ?_
        refine r_no rfl ?_
        refine r_no rfl ?_
        refine r_no rfl ?_
        refine r_no rfl ?_
        refine r_no rfl ?_
        refine r_pick rfl (by conv => lhs; whnf) (by conv => lhs; whnf) rfl ?_
        refine r_move rfl (by conv => lhs; whnf) rfl ?_
        refine r_no rfl ?_
        refine r_no rfl ?_
        refine r_no rfl ?_
        refine r_no rfl ?_
        refine r_no rfl ?_
        refine r_pick rfl (by conv => lhs; whnf) (by conv => lhs; whnf) rfl ?_
        refine r_move rfl (by conv => lhs; whnf) rfl ?_
        refine r_no rfl ?_
        refine r_no rfl ?_
        refine r_no rfl ?_
        refine r_no rfl ?_
        refine r_no rfl ?_
        refine r_pick rfl (by conv => lhs; whnf) (by conv => lhs; whnf) rfl ?_
        refine r_move rfl (by conv => lhs; whnf) rfl ?_
        refine r_no rfl ?_
        refine r_no rfl ?_
        refine r_no rfl ?_
        refine r_no rfl ?_
        refine r_no rfl ?_
        refine r_pick rfl (by conv => lhs; whnf) (by conv => lhs; whnf) rfl ?_
        refine r_assign rfl (by conv => lhs; whnf) rfl ?_
        refine k_nil ?_
        refine k_seq ?_
        refine awp_ret ?_
        refine k_fin ?_
        refine ends_pure [] (by simp only [Try.results35, resOf, ev_tmp, ev_const, ev_func, upd_at, slots_cons, slots_nil, objs_cons, objs_nil, Nat.reduceLT, Nat.reduceEqDiff, Nat.reduceAdd, reduceIte, if_true, if_false, ofVal, ofS, noOb, reduceCtorEq]; rfl) (by
          refine ⟨.inl (congrArg (fun b => V.t (.sc (.bool b))) ?_), trivial⟩
          rw [Bool.eq_iff_iff]
          simp only [eqb_iff, Bool.false_eq_true, decide_eq_true_eq, Core.mk.injEq, Form.mk.injEq, Step.mk.injEq, Bind.mk.injEq, Hit.mk.injEq, Rule.mk.injEq, Macro.mk.injEq, Expansion.mk.injEq]
          simp_all [eqb_iff, eqb_not, -List.map_inj_left] <;> (try (intro e; subst e; simp_all))) (by simp [V.idsL, V.ids])
    · rw [hg1]
      refine r_no rfl ?_
      refine r_no rfl ?_
      refine r_no rfl ?_
      refine r_no rfl ?_
      refine r_no rfl ?_
      refine r_pick rfl (by conv => lhs; whnf) (by conv => lhs; whnf) rfl ?_
      refine r_move rfl (by conv => lhs; whnf) rfl ?_
      refine r_no rfl ?_
      refine r_no rfl ?_
      refine r_no rfl ?_
      refine r_no rfl ?_
      refine r_no rfl ?_
      refine r_pick rfl (by conv => lhs; whnf) (by conv => lhs; whnf) rfl ?_
      refine r_move rfl (by conv => lhs; whnf) rfl ?_
      refine r_no rfl ?_
      refine r_no rfl ?_
      refine r_no rfl ?_
      refine r_no rfl ?_
      refine r_no rfl ?_
      refine r_pick rfl (by conv => lhs; whnf) (by conv => lhs; whnf) rfl ?_
      refine r_move rfl (by conv => lhs; whnf) rfl ?_
      refine r_no rfl ?_
      refine r_no rfl ?_
      refine r_no rfl ?_
      refine r_no rfl ?_
      refine r_no rfl ?_
      refine r_pick rfl (by conv => lhs; whnf) (by conv => lhs; whnf) rfl ?_
      refine r_move rfl (by conv => lhs; whnf) rfl ?_
      refine r_no rfl ?_
      refine r_no rfl ?_
      refine r_no rfl ?_
      refine r_no rfl ?_
      refine r_no rfl ?_
      refine r_pick rfl (by conv => lhs; whnf) (by conv => lhs; whnf) rfl ?_
      refine r_move rfl (by conv => lhs; whnf) rfl ?_
      refine r_no rfl ?_
      refine r_no rfl ?_
      refine r_no rfl ?_
      refine r_no rfl ?_
      refine r_no rfl ?_
      refine r_pick rfl (by conv => lhs; whnf) (by conv => lhs; whnf) rfl ?_
      refine r_assign rfl (by conv => lhs; whnf) rfl ?_
      refine k_nil ?_
      refine k_seq ?_
      refine awp_ret ?_
      refine k_fin ?_
      refine ends_pure [] (by simp only [Try.results35, resOf, ev_tmp, ev_const, ev_func, upd_at, slots_cons, slots_nil, objs_cons, objs_nil, Nat.reduceLT, Nat.reduceEqDiff, Nat.reduceAdd, reduceIte, if_true, if_false, ofVal, ofS, noOb, reduceCtorEq]; rfl) (by
        refine ⟨.inl (congrArg (fun b => V.t (.sc (.bool b))) ?_), trivial⟩
        rw [Bool.eq_iff_iff]
        simp only [eqb_iff, Bool.false_eq_true, decide_eq_true_eq, Core.mk.injEq, Form.mk.injEq, Step.mk.injEq, Bind.mk.injEq, Hit.mk.injEq, Rule.mk.injEq, Macro.mk.injEq, Expansion.mk.injEq]
        simp_all [eqb_iff, eqb_not, -List.map_inj_left] <;> (try (intro e; subst e; simp_all))) (by simp [V.idsL, V.ids])
termination_by a => SizeOf.sizeOf a
decreasing_by all_goals (have := List.sizeOf_lt_of_mem (by assumption); simp only [Core.mk.sizeOf_spec]; omega)
end Go.Abs
