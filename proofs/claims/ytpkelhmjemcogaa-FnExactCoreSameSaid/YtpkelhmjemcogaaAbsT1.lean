/- A part of the proof: contracts of the functions that the law calls, on pure values. -/
import Derived.Test.YtpkelhmjemcogaaAbsU
import Derived.Test.YtpkelhmjemcogaaProg
import Derived.KernelRfl
import Derived.IntWalk
set_option linter.unusedSimpArgs false
set_option maxHeartbeats 4000000
set_option linter.unusedVariables false
namespace Go.Abs
open Go.Proofs
theorem yU23 : Try.prog.underlying 23 = some (.slice 3) := by kernel_rfl
theorem yP23 : apOf Try.prog 23 = some (3, 8, 1) := by kernel_rfl
theorem yR3 : zrow Try.prog 3 = some [(.sc (.int .i64 0))] := by kernel_rfl
theorem yE23 : elOf Try.prog 23 = some (3, 1) := by kernel_rfl
theorem yA3 : aggOf Try.prog 3 = some false := by kernel_rfl
theorem yS3 : szOf Try.prog 3 = some 1 := by kernel_rfl
theorem yMix : Try.prog.follows .mixedOrders = true := by kernel_rfl
theorem yF39_0 : fldOf Try.prog 39 0 = some (0, 3) := by kernel_rfl
theorem yS39 : szOf Try.prog 39 = some 5 := by kernel_rfl
theorem yF39_1 : fldOf Try.prog 39 1 = some (1, 9) := by kernel_rfl
theorem yS9 : szOf Try.prog 9 = some 1 := by kernel_rfl
theorem yF39_2 : fldOf Try.prog 39 2 = some (2, 3) := by kernel_rfl
theorem yF39_3 : fldOf Try.prog 39 3 = some (3, 23) := by kernel_rfl
theorem yS23 : szOf Try.prog 23 = some 1 := by kernel_rfl
theorem yF39_4 : fldOf Try.prog 39 4 = some (4, 37) := by kernel_rfl
theorem yS37 : szOf Try.prog 37 = some 1 := by kernel_rfl
theorem yU3 : Try.prog.underlying 3 = some (.int .i64) := by kernel_rfl
theorem yU9 : Try.prog.underlying 9 = some .string := by kernel_rfl
theorem yU37 : Try.prog.underlying 37 = some (.slice 39) := by kernel_rfl
theorem yE37 : elOf Try.prog 37 = some (39, 5) := by kernel_rfl
theorem yA39 : aggOf Try.prog 39 = some true := by kernel_rfl
theorem yA9 : aggOf Try.prog 9 = some false := by kernel_rfl
theorem yA23 : aggOf Try.prog 23 = some false := by kernel_rfl
theorem yA37 : aggOf Try.prog 37 = some false := by kernel_rfl
theorem yP24 : apOf Try.prog 24 = some (26, 80, 5) := by kernel_rfl
theorem yR26 : zrow Try.prog 26 = some [(.sc (.int .i64 0)), (.sc (.str ⟨#[]⟩)), (.sc (.int .i64 0)), .sl [], .sl []] := by kernel_rfl
theorem yE24 : elOf Try.prog 24 = some (26, 5) := by kernel_rfl
theorem yS26 : szOf Try.prog 26 = some 5 := by kernel_rfl
theorem yZ26 : zcells Try.prog 26 = some [.t (.sc (.int .i64 0)), .t (.sc (.str ⟨#[]⟩)), .t (.sc (.int .i64 0)), .nl, .nl] := by kernel_rfl
theorem yF26_0 : fldOf Try.prog 26 0 = some (0, 3) := by kernel_rfl
theorem yF26_1 : fldOf Try.prog 26 1 = some (1, 9) := by kernel_rfl
theorem yF26_2 : fldOf Try.prog 26 2 = some (2, 3) := by kernel_rfl
theorem yF26_3 : fldOf Try.prog 26 3 = some (3, 23) := by kernel_rfl
theorem yF26_4 : fldOf Try.prog 26 4 = some (4, 24) := by kernel_rfl
theorem yS24 : szOf Try.prog 24 = some 1 := by kernel_rfl
theorem yA26 : aggOf Try.prog 26 = some true := by kernel_rfl
theorem yU24 : Try.prog.underlying 24 = some (.slice 26) := by kernel_rfl
theorem yA24 : aggOf Try.prog 24 = some false := by kernel_rfl
theorem yF42_0 : fldOf Try.prog 42 0 = some (0, 3) := by kernel_rfl
theorem yS42 : szOf Try.prog 42 = some 11 := by kernel_rfl
theorem yF42_1 : fldOf Try.prog 42 1 = some (1, 3) := by kernel_rfl
theorem yF42_2 : fldOf Try.prog 42 2 = some (2, 9) := by kernel_rfl
theorem yF42_3 : fldOf Try.prog 42 3 = some (3, 3) := by kernel_rfl
theorem yF42_4 : fldOf Try.prog 42 4 = some (4, 23) := by kernel_rfl
theorem yF42_5 : fldOf Try.prog 42 5 = some (5, 39) := by kernel_rfl
theorem yF42_6 : fldOf Try.prog 42 6 = some (10, 40) := by kernel_rfl
theorem yS40 : szOf Try.prog 40 = some 1 := by kernel_rfl
theorem yU40 : Try.prog.underlying 40 = some (.slice 42) := by kernel_rfl
theorem yE40 : elOf Try.prog 40 = some (42, 11) := by kernel_rfl
theorem yA42 : aggOf Try.prog 42 = some true := by kernel_rfl
theorem yA40 : aggOf Try.prog 40 = some false := by kernel_rfl
theorem yP27 : apOf Try.prog 27 = some (29, 168, 11) := by kernel_rfl
theorem yR29 : zrow Try.prog 29 = some [(.sc (.int .i64 0)), (.sc (.int .i64 0)), (.sc (.str ⟨#[]⟩)), (.sc (.int .i64 0)), .sl [], (.sc (.int .i64 0)), (.sc (.str ⟨#[]⟩)), (.sc (.int .i64 0)), .sl [], .sl [], .sl []] := by kernel_rfl
theorem yE27 : elOf Try.prog 27 = some (29, 11) := by kernel_rfl
theorem yS29 : szOf Try.prog 29 = some 11 := by kernel_rfl
theorem yZ29 : zcells Try.prog 29 = some [.t (.sc (.int .i64 0)), .t (.sc (.int .i64 0)), .t (.sc (.str ⟨#[]⟩)), .t (.sc (.int .i64 0)), .nl, .t (.sc (.int .i64 0)), .t (.sc (.str ⟨#[]⟩)), .t (.sc (.int .i64 0)), .nl, .nl, .nl] := by kernel_rfl
theorem yF29_0 : fldOf Try.prog 29 0 = some (0, 3) := by kernel_rfl
theorem yF29_1 : fldOf Try.prog 29 1 = some (1, 3) := by kernel_rfl
theorem yF29_2 : fldOf Try.prog 29 2 = some (2, 9) := by kernel_rfl
theorem yF29_3 : fldOf Try.prog 29 3 = some (3, 3) := by kernel_rfl
theorem yF29_4 : fldOf Try.prog 29 4 = some (4, 23) := by kernel_rfl
theorem yF29_5 : fldOf Try.prog 29 5 = some (5, 26) := by kernel_rfl
theorem yF29_6 : fldOf Try.prog 29 6 = some (10, 27) := by kernel_rfl
theorem yS27 : szOf Try.prog 27 = some 1 := by kernel_rfl
theorem yA29 : aggOf Try.prog 29 = some true := by kernel_rfl
theorem yU27 : Try.prog.underlying 27 = some (.slice 29) := by kernel_rfl
theorem yA27 : aggOf Try.prog 27 = some false := by kernel_rfl
theorem szIntS_ok (l : List Int) (left : Int) (h0 : 0 ≤ left) (h1 : left ≤ 2 ^ 60) (hl : l.length ≤ 2 ^ 63 - 1) : AC Try.prog 24 [.t (ints64 l), vi left] noOb (vi (szr l.length left)) noOb := by
  have hw := IntWalk.i64_in (left - (l.length : Int)) (by omega)
  refine AC_intro (rs := [_]) Try.func24 rfl (by kernel_rfl) (by simp [Try.ntmps24]) (by simp [noOb]) ?_
  intro C hC
  rw [Try.ntmps24]
  refine awp_seq ?_
  refine awp_region ?_
  refine r_assign rfl (by conv => lhs; whnf) rfl ?_
  refine k_nil ?_
  refine k_seq ?_
  refine awp_seq ?_
  refine awp_region ?_
  refine r_move rfl (by conv => lhs; whnf) rfl ?_
  refine r_move rfl (by conv => lhs; whnf) rfl ?_
  refine r_len rfl yU23 (by conv => lhs; whnf) (by conv => lhs; whnf) rfl ?_
  refine r_bin rfl (by conv => lhs; whnf) (by conv => lhs; whnf) (by simp only [List.length_map, hw, abin, reduceIte, ne_eq, decide_not, Bool.not_true, Bool.not_false]; rfl) rfl ?_
  refine r_assign rfl (by conv => lhs; whnf) rfl ?_
  refine k_nil ?_
  refine k_seq ?_
  refine awp_seq ?_
  refine awp_seq ?_
  refine awp_region ?_
  refine r_move rfl (by conv => lhs; whnf) rfl ?_
  refine r_bin rfl (by conv => lhs; whnf) (by conv => lhs; whnf) (by simp only [List.length_map, hw, abin, reduceIte, ne_eq, decide_not, Bool.not_true, Bool.not_false]; rfl) rfl ?_
  refine k_nil ?_
  refine k_seq ?_
  refine awp_cond rfl (fun hc => ?_) (fun hc => ?_)
  · have hr : szr l.length left = -1 := szr_neg (by have := of_decide_eq_true hc; omega)
    refine awp_seq ?_
    refine awp_region ?_
    refine r_assign rfl (by conv => lhs; whnf) rfl ?_
    refine k_nil ?_
    refine k_seq ?_
    refine awp_ret ?_
    refine k_seq_ret ?_
    refine k_fin ?_
    refine ends_pure [] (by simp only [Try.results24, resOf, List.length_map, hw, ev_tmp, ev_const, ev_func, upd_at, slots_cons, slots_nil, objs_cons, objs_nil, Nat.reduceLT, Nat.reduceEqDiff, Nat.reduceAdd, reduceIte, if_true, if_false, ofVal, ofS, noOb, reduceCtorEq]; rfl) (by rw [hr]; exact ⟨give_id _, trivial⟩) (by simp [V.idsL, V.ids])
  · have hr : szr l.length left = left - l.length := szr_pos (by have := of_decide_eq_false hc; omega)
    refine awp_skip ?_
    refine k_seq ?_
    refine awp_seq ?_
    refine awp_region ?_
    refine r_move rfl (by conv => lhs; whnf) rfl ?_
    refine r_assign rfl (by conv => lhs; whnf) rfl ?_
    refine k_nil ?_
    refine k_seq ?_
    refine awp_ret ?_
    refine k_fin ?_
    refine ends_pure [] (by simp only [Try.results24, resOf, List.length_map, hw, ev_tmp, ev_const, ev_func, upd_at, slots_cons, slots_nil, objs_cons, objs_nil, Nat.reduceLT, Nat.reduceEqDiff, Nat.reduceAdd, reduceIte, if_true, if_false, ofVal, ofS, noOb, reduceCtorEq]; rfl) (by rw [hr]; exact ⟨give_id _, trivial⟩) (by simp [V.idsL, V.ids])
theorem toIntS_ok (l : List Int) (hl : l.length ≤ 2 ^ 30) : AC Try.prog 27 [.t (.sl (l.map (fun n => [ti n])))] noOb (.t (.sl (l.map (fun n => [ti n])))) noOb := by
  refine AC_intro (rs := [_]) Try.func27 rfl (by kernel_rfl) (by simp [Try.ntmps27]) (by simp [noOb]) ?_
  intro C hC
  rw [Try.ntmps27]
  refine awp_seq ?_
  refine awp_region ?_
  refine r_assign rfl (by conv => lhs; whnf) rfl ?_
  refine k_nil ?_
  refine k_seq ?_
  refine awp_seq ?_
  refine awp_region ?_
  refine r_move rfl (by conv => lhs; whnf) rfl ?_
  refine r_len rfl yU23 (by conv => lhs; whnf) (by conv => lhs; whnf) rfl ?_
  refine r_make rfl yP23 yR3 rfl (by conv => lhs; whnf) (by conv => lhs; whnf) (by omega) (by simp only [List.length_map]; omega) rfl rfl ?_
  refine r_assign rfl (by conv => lhs; whnf) rfl ?_
  refine k_nil ?_
  refine k_seq ?_
  refine awp_seq ?_
  refine awp_seq ?_
  refine awp_region ?_
  refine r_assign rfl (by conv => lhs; whnf) rfl ?_
  refine k_nil ?_
  refine k_seq ?_
  refine awp_block ?_
  refine awp_for (fun j : Nat => l.length - j) (fun j => [(0, .t (.sl (l.map (fun n => [ti n])))), (3, .ar 7), (4, vi j)]) (fun j => [(7, .arr (mid (fun n => [ti n]) [(.sc (.int .i64 0))] l j) 3 true)]) (fun j => j ≤ l.length) 0 (Nat.zero_le _) ?_ ?_
  · refine weak_to _ _ (fun k hk => absurd rfl (hC k hk)) ?_ ?_
    · simp only [HasS, upd_at, reduceIte, Nat.reduceEqDiff, V.ids, List.not_mem_nil, false_imp_iff, implies_true, and_true, List.map_cons, List.map_nil]
      simp [slots, List.length_map, List.map_cons]
    · simp only [HasM, upd_at, reduceIte, Nat.reduceEqDiff, Ob.ids, List.not_mem_nil, false_imp_iff, implies_true, and_true, mid_zero, List.length_map, Int.toNat_natCast]
  · intro j hj
    refine awp_seq ?_
    refine awp_seq ?_
    refine awp_region ?_
    refine r_move rfl (by conv => lhs; whnf) rfl ?_
    refine r_move rfl (by conv => lhs; whnf) rfl ?_
    refine r_len rfl yU23 (by conv => lhs; whnf) (by conv => lhs; whnf) rfl ?_
    refine r_bin rfl (by conv => lhs; whnf) (by conv => lhs; whnf) (by simp only [List.length_map, abin, reduceIte, ne_eq, decide_not, Bool.not_true, Bool.not_false]; rfl) rfl ?_
    refine k_nil ?_
    refine k_seq ?_
    refine awp_cond rfl (fun hc => ?_) (fun hc => ?_)
    · have hlt : j < l.length := by have := of_decide_eq_true hc; omega
      have hget := map_get (fun n => [ti n]) l j hlt
      have hmg := mid_get (fun n => [ti n]) [(.sc (.int .i64 0))] l j hlt
      have hms := mid_set (fun n => [ti n]) [(.sc (.int .i64 0))] l j hlt
      have hml := mid_lt (fun n => [ti n]) [(.sc (.int .i64 0))] l j hlt
      clear hc
      refine awp_skip ?_
      refine k_seq ?_
      refine awp_seq ?_
      refine awp_block ?_
      refine awp_region ?_
      refine r_move rfl (by conv => lhs; whnf) rfl ?_
      refine r_move rfl (by conv => lhs; whnf) rfl ?_
      refine r_move rfl (by conv => lhs; whnf) rfl ?_
      refine r_move rfl (by conv => lhs; whnf) rfl ?_
      refine r_indexAddr rfl yE23 (by conv => lhs; whnf) (by conv => lhs; whnf) (by omega) (by simp only [hget, hml, List.length_map, indexP, ev_tmp, ev_const, ev_func, upd_at, slots_cons, slots_nil, objs_cons, objs_nil, Nat.reduceLT, Nat.reduceEqDiff, Nat.reduceAdd, reduceIte, if_true, if_false, ofVal, ofS, noOb, reduceCtorEq]; rfl) rfl ?_
      refine r_load1 rfl yA3 (by conv => lhs; whnf) (by conv => lhs; whnf) (by (try simp only [hget, hml, List.length_map, List.take_succ_cons, List.take_zero, List.drop_succ_cons, List.drop_zero, List.take_nil, List.drop_nil, List.nil_append, List.cons_append, List.append_nil, List.length_cons, List.length_nil, List.head?_cons, List.map_cons, List.map_nil, Nat.reduceAdd, Nat.zero_add, List.length_map]); rfl) rfl ?_
      refine r_indexAddr rfl yE23 (by conv => lhs; whnf) (by conv => lhs; whnf) (by omega) (by simp only [hget, hml, List.length_map, indexP, ev_tmp, ev_const, ev_func, upd_at, slots_cons, slots_nil, objs_cons, objs_nil, Nat.reduceLT, Nat.reduceEqDiff, Nat.reduceAdd, reduceIte, if_true, if_false, ofVal, ofS, noOb, reduceCtorEq]; rfl) rfl ?_
      refine r_storeA rfl (by conv => lhs; whnf) (by conv => lhs; whnf) (by conv => lhs; whnf) (by simp only [vcells]; rfl) (by first | rfl | simp only [hget, hml, List.length_map, vcells, oneAll_t]) (by rw [yS3]; simp only [hget, hml, List.length_map, vcells, List.take_succ_cons, List.take_zero, List.drop_succ_cons, List.drop_zero, List.take_nil, List.drop_nil, List.nil_append, List.cons_append, List.append_nil, List.length_cons, List.length_nil, List.head?_cons, List.map_cons, List.map_nil, Nat.reduceAdd, Nat.zero_add, List.length_map]) hmg (by simp only [toTs, toT]; rfl) (by rfl) yS3 (by simp only [hget, hml, List.length_map, vcells, List.take_succ_cons, List.take_zero, List.drop_succ_cons, List.drop_zero, List.take_nil, List.drop_nil, List.nil_append, List.cons_append, List.append_nil, List.length_cons, List.length_nil, List.head?_cons, List.map_cons, List.map_nil, Nat.reduceAdd, Nat.zero_add, List.length_map]; omega) (by simp [fz, fz_t]) (by simp only [hget, hml, List.length_map, vcells, fz_t, fz, List.flatMap_cons, List.flatMap_nil, List.take_succ_cons, List.take_zero, List.drop_succ_cons, List.drop_zero, List.take_nil, List.drop_nil, List.nil_append, List.cons_append, List.append_nil, List.length_cons, List.length_nil, List.head?_cons, List.map_cons, List.map_nil, Nat.reduceAdd, Nat.zero_add, List.length_map, fzU]; rfl) rfl (by exact hms) rfl ?_
      refine k_nil ?_
      refine k_blk ?_
      refine k_seq ?_
      refine awp_region ?_
      refine r_move rfl (by conv => lhs; whnf) rfl ?_
      refine r_bin rfl (by conv => lhs; whnf) (by conv => lhs; whnf) (by simp only [hget, hml, List.length_map, abin, reduceIte, ne_eq, decide_not, Bool.not_true, Bool.not_false]; rfl) rfl ?_
      refine r_assign rfl (by conv => lhs; whnf) rfl ?_
      refine k_nil ?_
      refine k_for (j + 1) hlt (by show l.length - (j + 1) < l.length - j; omega) ?_
      refine weak_to _ _ (fun k hk => absurd rfl (hC k hk)) ?_ ?_
      · simp only [HasS, upd_at, slots_cons, reduceIte, Nat.reduceEqDiff, V.ids, List.not_mem_nil, false_imp_iff, implies_true, and_true]
        rw [IntWalk.i64_in _ (by omega)]
        simp [slots, List.length_map]
      · simp only [HasM, upd_at, objs_cons, reduceIte, Nat.reduceEqDiff, Ob.ids, List.not_mem_nil, false_imp_iff, implies_true, and_true]
    · have hje : j = l.length := by have := of_decide_eq_false hc; omega
      subst hje
      rw [mid_all]
      refine awp_exit ?_
      refine k_seq_exit ?_
      refine k_for_exit ?_
      refine k_blk_exit ?_
      refine k_seq ?_
      refine awp_seq ?_
      refine awp_region ?_
      refine r_move rfl (by conv => lhs; whnf) rfl ?_
      refine r_assign rfl (by conv => lhs; whnf) rfl ?_
      refine k_nil ?_
      refine k_seq ?_
      refine awp_ret ?_
      refine k_fin ?_
      refine ends_pure [7] (by simp only [Try.results27, resOf, List.length_map, ev_tmp, ev_const, ev_func, upd_at, slots_cons, slots_nil, objs_cons, objs_nil, Nat.reduceLT, Nat.reduceEqDiff, Nat.reduceAdd, reduceIte, if_true, if_false, ofVal, ofS, noOb, reduceCtorEq]; rfl) (by exact ⟨.inr (.inl ⟨_, by simp only [fzU, app, upd_at, objs_cons, reduceIte, toT, ev_tmp, ev_const, ev_func, upd_at, slots_cons, slots_nil, objs_cons, objs_nil, Nat.reduceLT, Nat.reduceEqDiff, Nat.reduceAdd, reduceIte, if_true, if_false, ofVal, ofS, noOb, reduceCtorEq] <;> rfl, rfl, by simp [fz]⟩), trivial⟩) (by simp [V.idsL, V.ids])
theorem eqIntS_ok (l : List Int) (hl : l.length ≤ 2 ^ 30) : AC Try.prog 30 [.t (.sl (l.map (fun n => [ti n]))), .t (.sl (l.map (fun n => [ti n])))] noOb (vb true) noOb := by
  refine AC_intro (rs := [_]) Try.func30 rfl (by kernel_rfl) (by simp [Try.ntmps30]) (by simp [noOb]) ?_
  intro C hC
  rw [Try.ntmps30]
  refine awp_seq ?_
  refine awp_region ?_
  refine r_assign rfl (by conv => lhs; whnf) rfl ?_
  refine k_nil ?_
  refine k_seq ?_
  refine awp_seq ?_
  refine awp_seq ?_
  refine awp_region ?_
  refine r_move rfl (by conv => lhs; whnf) rfl ?_
  refine r_len rfl yU23 (by conv => lhs; whnf) (by conv => lhs; whnf) rfl ?_
  refine r_move rfl (by conv => lhs; whnf) rfl ?_
  refine r_len rfl yU23 (by conv => lhs; whnf) (by conv => lhs; whnf) rfl ?_
  refine r_bin rfl (by conv => lhs; whnf) (by conv => lhs; whnf) (by simp only [List.length_map, abin, reduceIte, ne_eq, decide_not, Bool.not_true, Bool.not_false]; rfl) rfl ?_
  refine k_nil ?_
  refine k_seq ?_
  refine awp_cond rfl (fun hc => ?_) (fun hc => ?_)
  · exact absurd hc (by simp)
  · clear hc
    refine awp_skip ?_
    refine k_seq ?_
    refine awp_seq ?_
    refine awp_seq ?_
    refine awp_region ?_
    refine r_assign rfl (by conv => lhs; whnf) rfl ?_
    refine k_nil ?_
    refine k_seq ?_
    refine awp_block ?_
    refine awp_for (fun j : Nat => l.length - j) (fun j => [(0, .t (.sl (l.map (fun n => [ti n])))), (1, .t (.sl (l.map (fun n => [ti n])))), (5, vi j)]) (fun _ => []) (fun j => j ≤ l.length) 0 (Nat.zero_le _) ?_ ?_
    · refine weak_to _ _ (fun k hk => absurd rfl (hC k hk)) ?_ trivial
      simp only [HasS, upd_at, reduceIte, Nat.reduceEqDiff, V.ids, List.not_mem_nil, false_imp_iff, implies_true, and_true]
      simp [slots]
    · intro j hj
      refine awp_seq ?_
      refine awp_seq ?_
      refine awp_region ?_
      refine r_move rfl (by conv => lhs; whnf) rfl ?_
      refine r_move rfl (by conv => lhs; whnf) rfl ?_
      refine r_len rfl yU23 (by conv => lhs; whnf) (by conv => lhs; whnf) rfl ?_
      refine r_bin rfl (by conv => lhs; whnf) (by conv => lhs; whnf) (by simp only [List.length_map, abin, reduceIte, ne_eq, decide_not, Bool.not_true, Bool.not_false]; rfl) rfl ?_
      refine k_nil ?_
      refine k_seq ?_
      refine awp_cond rfl (fun hc => ?_) (fun hc => ?_)
      · have hlt : j < l.length := by have := of_decide_eq_true hc; omega
        have hget := map_get (fun n => [ti n]) l j hlt
        clear hc
        refine awp_skip ?_
        refine k_seq ?_
        refine awp_seq ?_
        refine awp_block ?_
        refine awp_seq ?_
        refine awp_draw yMix (by kernel_rfl) ?_
        refine r_move rfl (by conv => lhs; whnf) (by simp only [fpOf, idOf, Option.getD_some, Option.getD_none, Op.operands, Call.operands, V.idsL, V.ids, idsL_t, List.append_nil, List.nil_append, List.cons_append, List.toList_toArray, List.map_toArray, List.size_toArray, List.append_toArray, ev_tmp, ev_const, ev_func, upd_at, slots_cons, slots_nil, objs_cons, objs_nil, Nat.reduceLT, Nat.reduceEqDiff, Nat.reduceAdd, reduceIte, if_true, if_false, ofVal, ofS, noOb, reduceCtorEq, List.take_succ_cons, List.take_zero, List.drop_succ_cons, List.drop_zero, List.take_nil, List.drop_nil, List.nil_append, List.cons_append, List.append_nil, List.length_cons, List.length_nil, List.head?_cons, List.map_cons, List.map_nil, Nat.reduceAdd, Nat.zero_add, List.length_map, hget, List.length_map, List.length_cons, List.length_nil]; rfl) ?_
        refine r_move rfl (by conv => lhs; whnf) (by simp only [fpOf, idOf, Option.getD_some, Option.getD_none, Op.operands, Call.operands, V.idsL, V.ids, idsL_t, List.append_nil, List.nil_append, List.cons_append, List.toList_toArray, List.map_toArray, List.size_toArray, List.append_toArray, ev_tmp, ev_const, ev_func, upd_at, slots_cons, slots_nil, objs_cons, objs_nil, Nat.reduceLT, Nat.reduceEqDiff, Nat.reduceAdd, reduceIte, if_true, if_false, ofVal, ofS, noOb, reduceCtorEq, List.take_succ_cons, List.take_zero, List.drop_succ_cons, List.drop_zero, List.take_nil, List.drop_nil, List.nil_append, List.cons_append, List.append_nil, List.length_cons, List.length_nil, List.head?_cons, List.map_cons, List.map_nil, Nat.reduceAdd, Nat.zero_add, List.length_map, hget, List.length_map, List.length_cons, List.length_nil]; rfl) ?_
        refine r_indexAddr rfl yE23 (by conv => lhs; whnf) (by conv => lhs; whnf) (by omega) (by simp only [hget, List.length_map, List.length_cons, List.length_nil, indexP, ev_tmp, ev_const, ev_func, upd_at, slots_cons, slots_nil, objs_cons, objs_nil, Nat.reduceLT, Nat.reduceEqDiff, Nat.reduceAdd, reduceIte, if_true, if_false, ofVal, ofS, noOb, reduceCtorEq]; rfl) (by simp only [fpOf, idOf, Option.getD_some, Option.getD_none, Op.operands, Call.operands, V.idsL, V.ids, idsL_t, List.append_nil, List.nil_append, List.cons_append, List.toList_toArray, List.map_toArray, List.size_toArray, List.append_toArray, ev_tmp, ev_const, ev_func, upd_at, slots_cons, slots_nil, objs_cons, objs_nil, Nat.reduceLT, Nat.reduceEqDiff, Nat.reduceAdd, reduceIte, if_true, if_false, ofVal, ofS, noOb, reduceCtorEq, List.take_succ_cons, List.take_zero, List.drop_succ_cons, List.drop_zero, List.take_nil, List.drop_nil, List.nil_append, List.cons_append, List.append_nil, List.length_cons, List.length_nil, List.head?_cons, List.map_cons, List.map_nil, Nat.reduceAdd, Nat.zero_add, List.length_map, hget, List.length_map, List.length_cons, List.length_nil]; rfl) ?_
        refine r_load1 rfl yA3 (by conv => lhs; whnf) (by conv => lhs; whnf) (by (try simp only [hget, List.length_map, List.length_cons, List.length_nil, List.take_succ_cons, List.take_zero, List.drop_succ_cons, List.drop_zero, List.take_nil, List.drop_nil, List.nil_append, List.cons_append, List.append_nil, List.length_cons, List.length_nil, List.head?_cons, List.map_cons, List.map_nil, Nat.reduceAdd, Nat.zero_add, List.length_map]); rfl) (by simp only [fpOf, idOf, Option.getD_some, Option.getD_none, Op.operands, Call.operands, V.idsL, V.ids, idsL_t, List.append_nil, List.nil_append, List.cons_append, List.toList_toArray, List.map_toArray, List.size_toArray, List.append_toArray, ev_tmp, ev_const, ev_func, upd_at, slots_cons, slots_nil, objs_cons, objs_nil, Nat.reduceLT, Nat.reduceEqDiff, Nat.reduceAdd, reduceIte, if_true, if_false, ofVal, ofS, noOb, reduceCtorEq, List.take_succ_cons, List.take_zero, List.drop_succ_cons, List.drop_zero, List.take_nil, List.drop_nil, List.nil_append, List.cons_append, List.append_nil, List.length_cons, List.length_nil, List.head?_cons, List.map_cons, List.map_nil, Nat.reduceAdd, Nat.zero_add, List.length_map, hget, List.length_map, List.length_cons, List.length_nil]; rfl) ?_
        refine r_move rfl (by conv => lhs; whnf) (by simp only [fpOf, idOf, Option.getD_some, Option.getD_none, Op.operands, Call.operands, V.idsL, V.ids, idsL_t, List.append_nil, List.nil_append, List.cons_append, List.toList_toArray, List.map_toArray, List.size_toArray, List.append_toArray, ev_tmp, ev_const, ev_func, upd_at, slots_cons, slots_nil, objs_cons, objs_nil, Nat.reduceLT, Nat.reduceEqDiff, Nat.reduceAdd, reduceIte, if_true, if_false, ofVal, ofS, noOb, reduceCtorEq, List.take_succ_cons, List.take_zero, List.drop_succ_cons, List.drop_zero, List.take_nil, List.drop_nil, List.nil_append, List.cons_append, List.append_nil, List.length_cons, List.length_nil, List.head?_cons, List.map_cons, List.map_nil, Nat.reduceAdd, Nat.zero_add, List.length_map, hget, List.length_map, List.length_cons, List.length_nil]; rfl) ?_
        refine r_move rfl (by conv => lhs; whnf) (by simp only [fpOf, idOf, Option.getD_some, Option.getD_none, Op.operands, Call.operands, V.idsL, V.ids, idsL_t, List.append_nil, List.nil_append, List.cons_append, List.toList_toArray, List.map_toArray, List.size_toArray, List.append_toArray, ev_tmp, ev_const, ev_func, upd_at, slots_cons, slots_nil, objs_cons, objs_nil, Nat.reduceLT, Nat.reduceEqDiff, Nat.reduceAdd, reduceIte, if_true, if_false, ofVal, ofS, noOb, reduceCtorEq, List.take_succ_cons, List.take_zero, List.drop_succ_cons, List.drop_zero, List.take_nil, List.drop_nil, List.nil_append, List.cons_append, List.append_nil, List.length_cons, List.length_nil, List.head?_cons, List.map_cons, List.map_nil, Nat.reduceAdd, Nat.zero_add, List.length_map, hget, List.length_map, List.length_cons, List.length_nil]; rfl) ?_
        refine r_indexAddr rfl yE23 (by conv => lhs; whnf) (by conv => lhs; whnf) (by omega) (by simp only [hget, List.length_map, List.length_cons, List.length_nil, indexP, ev_tmp, ev_const, ev_func, upd_at, slots_cons, slots_nil, objs_cons, objs_nil, Nat.reduceLT, Nat.reduceEqDiff, Nat.reduceAdd, reduceIte, if_true, if_false, ofVal, ofS, noOb, reduceCtorEq]; rfl) (by simp only [fpOf, idOf, Option.getD_some, Option.getD_none, Op.operands, Call.operands, V.idsL, V.ids, idsL_t, List.append_nil, List.nil_append, List.cons_append, List.toList_toArray, List.map_toArray, List.size_toArray, List.append_toArray, ev_tmp, ev_const, ev_func, upd_at, slots_cons, slots_nil, objs_cons, objs_nil, Nat.reduceLT, Nat.reduceEqDiff, Nat.reduceAdd, reduceIte, if_true, if_false, ofVal, ofS, noOb, reduceCtorEq, List.take_succ_cons, List.take_zero, List.drop_succ_cons, List.drop_zero, List.take_nil, List.drop_nil, List.nil_append, List.cons_append, List.append_nil, List.length_cons, List.length_nil, List.head?_cons, List.map_cons, List.map_nil, Nat.reduceAdd, Nat.zero_add, List.length_map, hget, List.length_map, List.length_cons, List.length_nil]; rfl) ?_
        refine r_load1 rfl yA3 (by conv => lhs; whnf) (by conv => lhs; whnf) (by (try simp only [hget, List.length_map, List.length_cons, List.length_nil, List.take_succ_cons, List.take_zero, List.drop_succ_cons, List.drop_zero, List.take_nil, List.drop_nil, List.nil_append, List.cons_append, List.append_nil, List.length_cons, List.length_nil, List.head?_cons, List.map_cons, List.map_nil, Nat.reduceAdd, Nat.zero_add, List.length_map]); rfl) (by simp only [fpOf, idOf, Option.getD_some, Option.getD_none, Op.operands, Call.operands, V.idsL, V.ids, idsL_t, List.append_nil, List.nil_append, List.cons_append, List.toList_toArray, List.map_toArray, List.size_toArray, List.append_toArray, ev_tmp, ev_const, ev_func, upd_at, slots_cons, slots_nil, objs_cons, objs_nil, Nat.reduceLT, Nat.reduceEqDiff, Nat.reduceAdd, reduceIte, if_true, if_false, ofVal, ofS, noOb, reduceCtorEq, List.take_succ_cons, List.take_zero, List.drop_succ_cons, List.drop_zero, List.take_nil, List.drop_nil, List.nil_append, List.cons_append, List.append_nil, List.length_cons, List.length_nil, List.head?_cons, List.map_cons, List.map_nil, Nat.reduceAdd, Nat.zero_add, List.length_map, hget, List.length_map, List.length_cons, List.length_nil]; rfl) ?_
        refine r_bin rfl (by conv => lhs; whnf) (by conv => lhs; whnf) (by simp only [hget, List.length_map, List.length_cons, List.length_nil, abin, reduceIte, ne_eq, decide_not, Bool.not_true, Bool.not_false]; rfl) (by simp only [fpOf, idOf, Option.getD_some, Option.getD_none, Op.operands, Call.operands, V.idsL, V.ids, idsL_t, List.append_nil, List.nil_append, List.cons_append, List.toList_toArray, List.map_toArray, List.size_toArray, List.append_toArray, ev_tmp, ev_const, ev_func, upd_at, slots_cons, slots_nil, objs_cons, objs_nil, Nat.reduceLT, Nat.reduceEqDiff, Nat.reduceAdd, reduceIte, if_true, if_false, ofVal, ofS, noOb, reduceCtorEq, List.take_succ_cons, List.take_zero, List.drop_succ_cons, List.drop_zero, List.take_nil, List.drop_nil, List.nil_append, List.cons_append, List.append_nil, List.length_cons, List.length_nil, List.head?_cons, List.map_cons, List.map_nil, Nat.reduceAdd, Nat.zero_add, List.length_map, hget, List.length_map, List.length_cons, List.length_nil]; rfl) ?_
        refine k_nilD (by simp only [List.reverse_cons, List.reverse_nil, List.nil_append, List.cons_append]; kernel_rfl) ?_
        refine k_seq ?_
        refine awp_cond rfl (fun hc => ?_) (fun hc => ?_)
        · exact absurd hc (by simp)
        · refine awp_skip ?_
          refine k_blk ?_
          refine k_seq ?_
          refine awp_region ?_
          refine r_move rfl (by conv => lhs; whnf) rfl ?_
          refine r_bin rfl (by conv => lhs; whnf) (by conv => lhs; whnf) (by simp only [hget, List.length_map, List.length_cons, List.length_nil, abin, reduceIte, ne_eq, decide_not, Bool.not_true, Bool.not_false]; rfl) rfl ?_
          refine r_assign rfl (by conv => lhs; whnf) rfl ?_
          refine k_nil ?_
          refine k_for (j + 1) hlt (by show l.length - (j + 1) < l.length - j; omega) ?_
          refine weak_to _ _ (fun k hk => absurd rfl (hC k hk)) ?_ trivial
          simp only [HasS, upd_at, slots_cons, reduceIte, Nat.reduceEqDiff, V.ids, List.not_mem_nil, false_imp_iff, implies_true, and_true]
          rw [IntWalk.i64_in _ (by omega)]
          simp [slots]
      · refine awp_exit ?_
        refine k_seq_exit ?_
        refine k_for_exit ?_
        refine k_blk_exit ?_
        refine k_seq ?_
        refine awp_seq ?_
        refine awp_region ?_
        refine r_assign rfl (by conv => lhs; whnf) rfl ?_
        refine k_nil ?_
        refine k_seq ?_
        refine awp_ret ?_
        refine k_fin ?_
        refine ends_pure [] (by simp only [Try.results30, resOf, List.length_map, ev_tmp, ev_const, ev_func, upd_at, slots_cons, slots_nil, objs_cons, objs_nil, Nat.reduceLT, Nat.reduceEqDiff, Nat.reduceAdd, reduceIte, if_true, if_false, ofVal, ofS, noOb, reduceCtorEq]; rfl) (by skip; exact ⟨give_id _, trivial⟩) (by simp [V.idsL, V.ids])
theorem read_Form {H : Type} {enc : TypeId × Value → H} {w : World} {base : Nat} {spare : Nat → Bool} {held : Bool} : ∀ (fuel : Nat) (cs : List Value) (x : DataW H × List MemPlace), DataW.trod enc Try.prog w base spare held fuel 39 cs = some x → ∃ f : Form, T.Cells (G0 w) f.row cs ∧ T.okL f.row ∧ cs.length = 5 := by
  intro fuel
  induction fuel using Nat.strongRecOn with | _ fuel ih => ?_
  intro cs x h
  have hl := trod_len yF39_0 yS39 h
  obtain ⟨n0, y0, hn0, h0⟩ := trod_field yF39_0 yS3 h
  obtain ⟨n1, y1, hn1, h1⟩ := trod_field yF39_1 yS9 h
  obtain ⟨n2, y2, hn2, h2⟩ := trod_field yF39_2 yS3 h
  obtain ⟨n3, y3, hn3, h3⟩ := trod_field yF39_3 yS23 h
  obtain ⟨n4, y4, hn4, h4⟩ := trod_field yF39_4 yS37 h
  match cs, hl with
  | [c0, c1, c2, c3, c4], _ =>
    simp only [List.take_succ_cons, List.take_zero, List.drop_succ_cons, List.drop_zero, List.take_nil, List.drop_nil] at h0 h1 h2 h3 h4
    obtain ⟨kind, e0, o0, _⟩ := trod_i yU3 h0
    obtain ⟨name, e1, o1, _⟩ := trod_s yU9 h1
    obtain ⟨n, e2, o2, _⟩ := trod_i yU3 h2
    obtain ⟨scopes, z3, q3, e3, o3⟩ := trod_is yU23 yU3 yS3 h3
    simp only [List.cons.injEq, and_true] at q3
    subst q3
    obtain ⟨kids, z4, q4, e4, o4⟩ := trod_l Form.row (sz := 4) yU37 yS39 (fun n cs' y hn hh => by
      obtain ⟨f, a1, a2, _⟩ := ih n (by omega) cs' y hh
      exact ⟨f, a1, Form.row_len f, a2⟩) h4
    simp only [List.cons.injEq, and_true] at q4
    subst q4
    exact ⟨.mk kind name n scopes kids, by rw [Form.row_mk]; exact cells_app e0 rfl (cells_app e1 rfl (cells_app e2 rfl (cells_cons e3 (cells_cons e4 (cells_nil))))), by rw [Form.row_mk]; exact okL_cons o0 (okL_cons o1 (okL_cons o2 (okL_cons o3 (okL_cons o4 (okL_nil))))), rfl⟩
theorem szFormS_of (l : List Form) (ih : ∀ f ∈ l, ∀ left : Int, 0 ≤ left → left ≤ 2 ^ 60 → T.okL f.row → AC Try.prog 25 [.ag (f.row.map .t), vi left] noOb (vi (szr (T.wtL f.row) left)) noOb) (left : Int) (h0 : 0 ≤ left) (h1 : left ≤ 2 ^ 60) (hok : T.ok (.sl (l.map Form.row))) : AC Try.prog 43 [.t (.sl (l.map Form.row)), vi left] noOb (vi (szr (T.wt (.sl (l.map Form.row))) left)) noOb := by
  simp only [T.ok, T.wt, List.length_map] at hok ⊢
  have hlen := hok.1
  have hw := IntWalk.i64_in (left - (l.length : Int)) (by omega)
  refine AC_intro (rs := [_]) Try.func43 rfl (by kernel_rfl) (by simp [Try.ntmps43]) (by simp [noOb]) ?_
  intro C hC
  rw [Try.ntmps43]
  refine awp_seq ?_
  refine awp_region ?_
  refine r_assign rfl (by conv => lhs; whnf) rfl ?_
  refine k_nil ?_
  refine k_seq ?_
  refine awp_seq ?_
  refine awp_region ?_
  refine r_move rfl (by conv => lhs; whnf) rfl ?_
  refine r_move rfl (by conv => lhs; whnf) rfl ?_
  refine r_len rfl yU37 (by conv => lhs; whnf) (by conv => lhs; whnf) rfl ?_
  refine r_bin rfl (by conv => lhs; whnf) (by conv => lhs; whnf) (by simp only [List.length_map, hw, abin, reduceIte, ne_eq, decide_not, Bool.not_true, Bool.not_false]; rfl) rfl ?_
  refine r_assign rfl (by conv => lhs; whnf) rfl ?_
  refine k_nil ?_
  refine k_seq ?_
  refine awp_seq ?_
  refine awp_seq ?_
  refine awp_region ?_
  refine r_move rfl (by conv => lhs; whnf) rfl ?_
  refine r_bin rfl (by conv => lhs; whnf) (by conv => lhs; whnf) (by simp only [List.length_map, hw, abin, reduceIte, ne_eq, decide_not, Bool.not_true, Bool.not_false]; rfl) rfl ?_
  refine k_nil ?_
  refine k_seq ?_
  refine awp_cond rfl (fun hc => ?_) (fun hc => ?_)
  · have hr : szr (l.length + T.wtR (l.map Form.row)) left = -1 := szr_neg (by have := of_decide_eq_true hc; omega)
    refine awp_seq ?_
    refine awp_region ?_
    refine r_assign rfl (by conv => lhs; whnf) rfl ?_
    refine k_nil ?_
    refine k_seq ?_
    refine awp_ret ?_
    refine k_seq_ret ?_
    refine k_fin ?_
    refine ends_pure [] (by simp only [Try.results43, resOf, List.length_map, hw, ev_tmp, ev_const, ev_func, upd_at, slots_cons, slots_nil, objs_cons, objs_nil, Nat.reduceLT, Nat.reduceEqDiff, Nat.reduceAdd, reduceIte, if_true, if_false, ofVal, ofS, noOb, reduceCtorEq]; rfl) (by rw [hr]; exact ⟨give_id _, trivial⟩) (by simp [V.idsL, V.ids])
  · have hc0 := of_decide_eq_false hc
    clear hc
    refine awp_skip ?_
    refine k_seq ?_
    refine awp_seq ?_
    refine awp_seq ?_
    refine awp_region ?_
    refine r_assign rfl (by conv => lhs; whnf) rfl ?_
    refine k_nil ?_
    refine k_seq ?_
    refine awp_block ?_
    refine awp_for (fun j : Nat => l.length - j) (fun j => [(0, .t (.sl (l.map Form.row))), (1, vi (left - l.length - T.wtR ((l.take j).map Form.row))), (5, vi j)]) (fun _ => []) (fun j => j ≤ l.length ∧ (T.wtR ((l.take j).map Form.row) : Int) ≤ left - l.length) 0 ⟨Nat.zero_le _, by simp [T.wtR]; omega⟩ ?_ ?_
    · refine weak_to _ _ (fun k hk => absurd rfl (hC k hk)) ?_ trivial
      simp only [HasS, upd_at, reduceIte, Nat.reduceEqDiff, V.ids, List.not_mem_nil, false_imp_iff, implies_true, and_true, List.take_zero, List.map_nil, T.wtR]
      simp [slots]
    · rintro j ⟨hj, hwj⟩
      refine awp_seq ?_
      refine awp_seq ?_
      refine awp_region ?_
      refine r_move rfl (by conv => lhs; whnf) rfl ?_
      refine r_move rfl (by conv => lhs; whnf) rfl ?_
      refine r_len rfl yU37 (by conv => lhs; whnf) (by conv => lhs; whnf) rfl ?_
      refine r_bin rfl (by conv => lhs; whnf) (by conv => lhs; whnf) (by simp only [List.length_map, abin, reduceIte, ne_eq, decide_not, Bool.not_true, Bool.not_false]; rfl) rfl ?_
      refine k_nil ?_
      refine k_seq ?_
      refine awp_cond rfl (fun hc => ?_) (fun hc => ?_)
      · have hlt : j < l.length := by have := of_decide_eq_true hc; omega
        have hget := map_get Form.row l j hlt
        have hsucc := T.wtR_succ Form.row l j hlt
        have hle := T.wtR_le Form.row l (j + 1)
        have hkid := ih l[j] (List.getElem_mem hlt) (left - l.length - T.wtR ((l.take j).map Form.row)) (by omega) (by omega) (T.okR_mem hok.2 (List.mem_map_of_mem (List.getElem_mem hlt)))
        clear hc
        refine awp_skip ?_
        refine k_seq ?_
        refine awp_seq ?_
        refine awp_block ?_
        refine awp_seq ?_
        refine awp_region ?_
        refine r_move rfl (by conv => lhs; whnf) rfl ?_
        refine r_move rfl (by conv => lhs; whnf) rfl ?_
        refine r_indexAddr rfl yE37 (by conv => lhs; whnf) (by conv => lhs; whnf) (by omega) (by simp only [hget, Form.row_len, Form.take, List.length_map, indexP, ev_tmp, ev_const, ev_func, upd_at, slots_cons, slots_nil, objs_cons, objs_nil, Nat.reduceLT, Nat.reduceEqDiff, Nat.reduceAdd, reduceIte, if_true, if_false, ofVal, ofS, noOb, reduceCtorEq]; rfl) rfl ?_
        refine r_loadN rfl yA39 yS39 (by conv => lhs; whnf) (by conv => lhs; whnf) (by simp only [hget, Form.row_len, Form.take, List.length_map, List.take_succ_cons, List.take_zero, List.drop_succ_cons, List.drop_zero, List.take_nil, List.drop_nil, List.nil_append, List.cons_append, List.append_nil, List.length_cons, List.length_nil, List.head?_cons, List.map_cons, List.map_nil, Nat.reduceAdd, Nat.zero_add, List.length_map]; omega) (by (try simp only [hget, Form.row_len, Form.take, List.length_map, List.take_succ_cons, List.take_zero, List.drop_succ_cons, List.drop_zero, List.take_nil, List.drop_nil, List.nil_append, List.cons_append, List.append_nil, List.length_cons, List.length_nil, List.head?_cons, List.map_cons, List.map_nil, Nat.reduceAdd, Nat.zero_add, List.length_map]); rfl) rfl ?_
        refine r_move rfl (by conv => lhs; whnf) rfl ?_
        refine r_pure [] rfl rfl rfl (by conv => lhs; whnf) (by simp only [hget, Form.row_len, Form.take, List.length_map, ev_tmp, ev_const, ev_func, upd_at, slots_cons, slots_nil, objs_cons, objs_nil, Nat.reduceLT, Nat.reduceEqDiff, Nat.reduceAdd, reduceIte, if_true, if_false, ofVal, ofS, noOb, reduceCtorEq, List.take_succ_cons, List.take_zero, List.drop_succ_cons, List.drop_zero, List.take_nil, List.drop_nil, List.nil_append, List.cons_append, List.append_nil, List.length_cons, List.length_nil, List.head?_cons, List.map_cons, List.map_nil, Nat.reduceAdd, Nat.zero_add, List.length_map, List.toList_toArray]; rfl) (by simp only [hget, Form.row_len, Form.take, List.length_map, fzU, ev_tmp, ev_const, ev_func, upd_at, slots_cons, slots_nil, objs_cons, objs_nil, Nat.reduceLT, Nat.reduceEqDiff, Nat.reduceAdd, reduceIte, if_true, if_false, ofVal, ofS, noOb, reduceCtorEq]; rfl) (by simp only [app]; rfl) (hkid) (by exact ⟨(by first | exact pass_id rfl | exact pass_id (ids_row _) | exact .inr (.inl ⟨_, rfl, rfl, by simp [fz]⟩) | exact .inr (.inr ⟨_, _, rfl, rfl, rfl, by simp [fz]⟩)), (by first | exact pass_id rfl | exact pass_id (ids_row _) | exact .inr (.inl ⟨_, rfl, rfl, by simp [fz]⟩) | exact .inr (.inr ⟨_, _, rfl, rfl, rfl, by simp [fz]⟩)), trivial⟩) rfl ?_
        refine r_assign rfl (by conv => lhs; whnf) rfl ?_
        refine k_nil ?_
        refine k_seq ?_
        refine awp_seq ?_
        refine awp_region ?_
        refine r_move rfl (by conv => lhs; whnf) rfl ?_
        refine r_bin rfl (by conv => lhs; whnf) (by conv => lhs; whnf) (by simp only [hget, Form.row_len, Form.take, List.length_map, abin, reduceIte, ne_eq, decide_not, Bool.not_true, Bool.not_false]; rfl) rfl ?_
        refine k_nil ?_
        refine k_seq ?_
        refine awp_cond rfl (fun hc => ?_) (fun hc => ?_)
        · have hc1 := of_decide_eq_true hc
          have hno : ¬ ((T.wtL l[j].row : Int) ≤ left - l.length - T.wtR ((l.take j).map Form.row)) := by
            intro hh; rw [szr_pos hh] at hc1; omega
          have hr : szr (l.length + T.wtR (l.map Form.row)) left = -1 := szr_neg (by push_cast; omega)
          refine awp_seq ?_
          refine awp_region ?_
          refine r_assign rfl (by conv => lhs; whnf) rfl ?_
          refine k_nil ?_
          refine k_seq ?_
          refine awp_ret ?_
          refine k_blk_ret ?_
          refine k_seq_ret ?_
          refine k_for_ret ?_
          refine k_blk_ret ?_
          refine k_seq_ret ?_
          refine k_fin ?_
          refine ends_pure [] (by simp only [Try.results43, resOf, hget, Form.row_len, Form.take, List.length_map, ev_tmp, ev_const, ev_func, upd_at, slots_cons, slots_nil, objs_cons, objs_nil, Nat.reduceLT, Nat.reduceEqDiff, Nat.reduceAdd, reduceIte, if_true, if_false, ofVal, ofS, noOb, reduceCtorEq]; rfl) (by rw [hr]; exact ⟨give_id _, trivial⟩) (by simp [V.idsL, V.ids])
        · have hc1 := of_decide_eq_false hc
          have hyes : (T.wtL l[j].row : Int) ≤ left - l.length - T.wtR ((l.take j).map Form.row) := by
            rcases Int.lt_or_le (left - l.length - T.wtR ((l.take j).map Form.row)) (T.wtL l[j].row) with hh | hh
            · rw [szr_neg hh] at hc1; omega
            · exact hh
          rw [szr_pos hyes]
          refine awp_skip ?_
          refine k_blk ?_
          refine k_seq ?_
          refine awp_region ?_
          refine r_move rfl (by conv => lhs; whnf) rfl ?_
          refine r_bin rfl (by conv => lhs; whnf) (by conv => lhs; whnf) (by simp only [hget, Form.row_len, Form.take, List.length_map, abin, reduceIte, ne_eq, decide_not, Bool.not_true, Bool.not_false]; rfl) rfl ?_
          refine r_assign rfl (by conv => lhs; whnf) rfl ?_
          refine k_nil ?_
          refine k_for (j + 1) ⟨by omega, by rw [hsucc]; push_cast; omega⟩ (by show l.length - (j + 1) < l.length - j; omega) ?_
          refine weak_to _ _ (fun k hk => absurd rfl (hC k hk)) ?_ trivial
          simp only [HasS, upd_at, slots_cons, reduceIte, Nat.reduceEqDiff, V.ids, List.not_mem_nil, false_imp_iff, implies_true, and_true]
          rw [hsucc, IntWalk.i64_in _ (by omega)]
          exact ⟨trivial, by push_cast; rw [Int.sub_sub], by push_cast; rfl⟩
      · have hje : j = l.length := by have := of_decide_eq_false hc; omega
        subst hje
        rw [List.take_length] at hwj ⊢
        have hr : szr (l.length + T.wtR (l.map Form.row)) left = left - l.length - T.wtR (l.map Form.row) := by rw [szr_pos (by push_cast; omega)]; push_cast; omega
        refine awp_exit ?_
        refine k_seq_exit ?_
        refine k_for_exit ?_
        refine k_blk_exit ?_
        refine k_seq ?_
        refine awp_seq ?_
        refine awp_region ?_
        refine r_move rfl (by conv => lhs; whnf) rfl ?_
        refine r_assign rfl (by conv => lhs; whnf) rfl ?_
        refine k_nil ?_
        refine k_seq ?_
        refine awp_ret ?_
        refine k_fin ?_
        refine ends_pure [] (by simp only [Try.results43, resOf, List.length_map, ev_tmp, ev_const, ev_func, upd_at, slots_cons, slots_nil, objs_cons, objs_nil, Nat.reduceLT, Nat.reduceEqDiff, Nat.reduceAdd, reduceIte, if_true, if_false, ofVal, ofS, noOb, reduceCtorEq]; rfl) (by rw [hr]; exact ⟨give_id _, trivial⟩) (by simp [V.idsL, V.ids])
theorem szForm_ok : ∀ (f : Form) (left : Int), 0 ≤ left → left ≤ 2 ^ 60 → T.okL f.row → AC Try.prog 25 [.ag (f.row.map .t), vi left] noOb (vi (szr (T.wtL f.row) left)) noOb
  | (Form.mk kind name n scopes kids), left, h0, h1, hok => by
    rw [Form.row_mk] at hok ⊢
    obtain ⟨wt, hwt⟩ : ∃ wt, wt = T.wtL [ti kind, tstr name, ti n, ints64 scopes, .sl (kids.map Form.row)] := ⟨_, rfl⟩
    rw [← hwt]
    simp only [T.wtL, T.wt, S.wt, T.wtR_ints, List.length_map] at hwt
    simp only [T.okL, T.ok, S.ok, List.length_map, and_true, true_and] at hok
    refine AC_intro (rs := [_]) Try.func25 rfl (by kernel_rfl) (by simp [Try.ntmps25]) (by simp [noOb]) ?_
    intro C hC
    rw [Try.ntmps25]
    have hw1 := IntWalk.i64_in (left - (name.size : Int)) (by omega)
    refine awp_seq ?_
    refine awp_region ?_
    refine r_box rfl (by conv => lhs; whnf) rfl (by conv => lhs; whnf) rfl rfl ?_
    refine r_assign rfl (by conv => lhs; whnf) rfl ?_
    refine k_nil ?_
    refine k_seq ?_
    refine awp_seq ?_
    refine awp_region ?_
    refine r_move rfl (by conv => lhs; whnf) rfl ?_
    refine r_fieldAddr rfl yF39_1 (by conv => lhs; whnf) (by conv => lhs; whnf) rfl ?_
    refine r_load1 rfl yA9 (by conv => lhs; whnf) (by conv => lhs; whnf) (by (try simp only [List.length_map, hw1, List.take_succ_cons, List.take_zero, List.drop_succ_cons, List.drop_zero, List.take_nil, List.drop_nil, List.nil_append, List.cons_append, List.append_nil, List.length_cons, List.length_nil, List.head?_cons, List.map_cons, List.map_nil, Nat.reduceAdd, Nat.zero_add, List.length_map]); rfl) rfl ?_
    refine r_lenS rfl yU9 (by conv => lhs; whnf) rfl ?_
    refine r_bin rfl (by conv => lhs; whnf) (by conv => lhs; whnf) (by simp only [List.length_map, hw1, abin, reduceIte, ne_eq, decide_not, Bool.not_true, Bool.not_false]; rfl) rfl ?_
    refine r_assign rfl (by conv => lhs; whnf) rfl ?_
    refine k_nil ?_
    refine k_seq ?_
    refine awp_seq ?_
    refine awp_seq ?_
    refine awp_region ?_
    refine r_move rfl (by conv => lhs; whnf) rfl ?_
    refine r_bin rfl (by conv => lhs; whnf) (by conv => lhs; whnf) (by simp only [List.length_map, hw1, abin, reduceIte, ne_eq, decide_not, Bool.not_true, Bool.not_false]; rfl) rfl ?_
    refine k_nil ?_
    refine k_seq ?_
    refine awp_cond rfl (fun hc1 => ?_) (fun hc1 => ?_)
    · have hr : szr wt left = -1 := szr_neg (by have := of_decide_eq_true hc1; omega)
      refine awp_seq ?_
      refine awp_region ?_
      refine r_assign rfl (by conv => lhs; whnf) rfl ?_
      refine k_nil ?_
      refine k_seq ?_
      refine awp_ret ?_
      refine k_seq_ret ?_
      refine k_fin ?_
      refine ends_pure [] (by simp only [Try.results25, resOf, List.length_map, hw1, ev_tmp, ev_const, ev_func, upd_at, slots_cons, slots_nil, objs_cons, objs_nil, Nat.reduceLT, Nat.reduceEqDiff, Nat.reduceAdd, reduceIte, if_true, if_false, ofVal, ofS, noOb, reduceCtorEq]; rfl) (by rw [hr]; exact ⟨give_id _, trivial⟩) (by simp [V.idsL, V.ids])
    have hc1' := of_decide_eq_false hc1
    refine awp_skip ?_
    refine k_seq ?_
    refine awp_seq ?_
    refine awp_region ?_
    refine r_fieldAddr rfl yF39_3 (by conv => lhs; whnf) (by conv => lhs; whnf) rfl ?_
    refine r_load1 rfl yA23 (by conv => lhs; whnf) (by conv => lhs; whnf) (by (try simp only [List.length_map, hw1, List.take_succ_cons, List.take_zero, List.drop_succ_cons, List.drop_zero, List.take_nil, List.drop_nil, List.nil_append, List.cons_append, List.append_nil, List.length_cons, List.length_nil, List.head?_cons, List.map_cons, List.map_nil, Nat.reduceAdd, Nat.zero_add, List.length_map]); rfl) rfl ?_
    refine r_move rfl (by conv => lhs; whnf) rfl ?_
    have hk2 := szIntS_ok scopes (left - (name.size : Nat)) (by omega) (by omega) (by omega)
    refine r_pure [] rfl rfl rfl (by conv => lhs; whnf) (by simp only [List.length_map, hw1, ev_tmp, ev_const, ev_func, upd_at, slots_cons, slots_nil, objs_cons, objs_nil, Nat.reduceLT, Nat.reduceEqDiff, Nat.reduceAdd, reduceIte, if_true, if_false, ofVal, ofS, noOb, reduceCtorEq, List.take_succ_cons, List.take_zero, List.drop_succ_cons, List.drop_zero, List.take_nil, List.drop_nil, List.nil_append, List.cons_append, List.append_nil, List.length_cons, List.length_nil, List.head?_cons, List.map_cons, List.map_nil, Nat.reduceAdd, Nat.zero_add, List.length_map, List.toList_toArray]; rfl) (by simp only [List.length_map, hw1, fzU, ev_tmp, ev_const, ev_func, upd_at, slots_cons, slots_nil, objs_cons, objs_nil, Nat.reduceLT, Nat.reduceEqDiff, Nat.reduceAdd, reduceIte, if_true, if_false, ofVal, ofS, noOb, reduceCtorEq]; rfl) (by simp only [app]; rfl) (hk2) (by exact ⟨(by first | exact pass_id rfl | exact pass_id (ids_row _) | exact .inr (.inl ⟨_, rfl, rfl, by simp [fz]⟩) | exact .inr (.inr ⟨_, _, rfl, rfl, rfl, by simp [fz]⟩)), (by first | exact pass_id rfl | exact pass_id (ids_row _) | exact .inr (.inl ⟨_, rfl, rfl, by simp [fz]⟩) | exact .inr (.inr ⟨_, _, rfl, rfl, rfl, by simp [fz]⟩)), trivial⟩) rfl ?_
    refine r_assign rfl (by conv => lhs; whnf) rfl ?_
    refine k_nil ?_
    refine k_seq ?_
    refine awp_seq ?_
    refine awp_seq ?_
    refine awp_region ?_
    refine r_move rfl (by conv => lhs; whnf) rfl ?_
    refine r_bin rfl (by conv => lhs; whnf) (by conv => lhs; whnf) (by simp only [List.length_map, hw1, abin, reduceIte, ne_eq, decide_not, Bool.not_true, Bool.not_false]; rfl) rfl ?_
    refine k_nil ?_
    refine k_seq ?_
    refine awp_cond rfl (fun hc2 => ?_) (fun hc2 => ?_)
    · have hn2 : ¬ ((scopes.length : Int) ≤ left - (name.size : Nat)) := by
        intro hh; have hc := of_decide_eq_true hc2; rw [szr_pos (by omega)] at hc; omega
      have hr : szr wt left = -1 := szr_neg (by omega)
      refine awp_seq ?_
      refine awp_region ?_
      refine r_assign rfl (by conv => lhs; whnf) rfl ?_
      refine k_nil ?_
      refine k_seq ?_
      refine awp_ret ?_
      refine k_seq_ret ?_
      refine k_fin ?_
      refine ends_pure [] (by simp only [Try.results25, resOf, List.length_map, hw1, ev_tmp, ev_const, ev_func, upd_at, slots_cons, slots_nil, objs_cons, objs_nil, Nat.reduceLT, Nat.reduceEqDiff, Nat.reduceAdd, reduceIte, if_true, if_false, ofVal, ofS, noOb, reduceCtorEq]; rfl) (by rw [hr]; exact ⟨give_id _, trivial⟩) (by simp [V.idsL, V.ids])
    have hc2' : (scopes.length : Int) ≤ left - (name.size : Nat) := by
      have hc := of_decide_eq_false hc2
      rcases Int.lt_or_le (left - (name.size : Nat)) (scopes.length : Nat) with hh | hh
      · rw [szr_neg (by omega)] at hc; omega
      · omega
    have he2 : szr scopes.length (left - (name.size : Nat)) = left - (name.size : Nat) - (scopes.length : Nat) := szr_pos (by omega)
    rw [he2]
    refine awp_skip ?_
    refine k_seq ?_
    refine awp_seq ?_
    refine awp_region ?_
    refine r_fieldAddr rfl yF39_4 (by conv => lhs; whnf) (by conv => lhs; whnf) rfl ?_
    refine r_load1 rfl yA37 (by conv => lhs; whnf) (by conv => lhs; whnf) (by (try simp only [List.length_map, hw1, List.take_succ_cons, List.take_zero, List.drop_succ_cons, List.drop_zero, List.take_nil, List.drop_nil, List.nil_append, List.cons_append, List.append_nil, List.length_cons, List.length_nil, List.head?_cons, List.map_cons, List.map_nil, Nat.reduceAdd, Nat.zero_add, List.length_map]); rfl) rfl ?_
    refine r_move rfl (by conv => lhs; whnf) rfl ?_
    have hk3 := szFormS_of kids (fun k hk => szForm_ok k) (left - (name.size : Nat) - (scopes.length : Nat)) (by omega) (by omega) (by simp only [T.ok, List.length_map]; simp only [hok, and_self])
    simp only [T.wt, List.length_map] at hk3
    refine r_pure [] rfl rfl rfl (by conv => lhs; whnf) (by simp only [List.length_map, hw1, ev_tmp, ev_const, ev_func, upd_at, slots_cons, slots_nil, objs_cons, objs_nil, Nat.reduceLT, Nat.reduceEqDiff, Nat.reduceAdd, reduceIte, if_true, if_false, ofVal, ofS, noOb, reduceCtorEq, List.take_succ_cons, List.take_zero, List.drop_succ_cons, List.drop_zero, List.take_nil, List.drop_nil, List.nil_append, List.cons_append, List.append_nil, List.length_cons, List.length_nil, List.head?_cons, List.map_cons, List.map_nil, Nat.reduceAdd, Nat.zero_add, List.length_map, List.toList_toArray]; rfl) (by simp only [List.length_map, hw1, fzU, ev_tmp, ev_const, ev_func, upd_at, slots_cons, slots_nil, objs_cons, objs_nil, Nat.reduceLT, Nat.reduceEqDiff, Nat.reduceAdd, reduceIte, if_true, if_false, ofVal, ofS, noOb, reduceCtorEq]; rfl) (by simp only [app]; rfl) (hk3) (by exact ⟨(by first | exact pass_id rfl | exact pass_id (ids_row _) | exact .inr (.inl ⟨_, rfl, rfl, by simp [fz]⟩) | exact .inr (.inr ⟨_, _, rfl, rfl, rfl, by simp [fz]⟩)), (by first | exact pass_id rfl | exact pass_id (ids_row _) | exact .inr (.inl ⟨_, rfl, rfl, by simp [fz]⟩) | exact .inr (.inr ⟨_, _, rfl, rfl, rfl, by simp [fz]⟩)), trivial⟩) rfl ?_
    refine r_assign rfl (by conv => lhs; whnf) rfl ?_
    refine k_nil ?_
    refine k_seq ?_
    refine awp_seq ?_
    refine awp_seq ?_
    refine awp_region ?_
    refine r_move rfl (by conv => lhs; whnf) rfl ?_
    refine r_bin rfl (by conv => lhs; whnf) (by conv => lhs; whnf) (by simp only [List.length_map, hw1, abin, reduceIte, ne_eq, decide_not, Bool.not_true, Bool.not_false]; rfl) rfl ?_
    refine k_nil ?_
    refine k_seq ?_
    refine awp_cond rfl (fun hc3 => ?_) (fun hc3 => ?_)
    · have hn3 : ¬ (((kids.length + T.wtR (kids.map Form.row)) : Int) ≤ left - (name.size : Nat) - (scopes.length : Nat)) := by
        intro hh; have hc := of_decide_eq_true hc3; rw [szr_pos (by omega)] at hc; omega
      have hr : szr wt left = -1 := szr_neg (by omega)
      refine awp_seq ?_
      refine awp_region ?_
      refine r_assign rfl (by conv => lhs; whnf) rfl ?_
      refine k_nil ?_
      refine k_seq ?_
      refine awp_ret ?_
      refine k_seq_ret ?_
      refine k_fin ?_
      refine ends_pure [] (by simp only [Try.results25, resOf, List.length_map, hw1, ev_tmp, ev_const, ev_func, upd_at, slots_cons, slots_nil, objs_cons, objs_nil, Nat.reduceLT, Nat.reduceEqDiff, Nat.reduceAdd, reduceIte, if_true, if_false, ofVal, ofS, noOb, reduceCtorEq]; rfl) (by rw [hr]; exact ⟨give_id _, trivial⟩) (by simp [V.idsL, V.ids])
    have hc3' : ((kids.length + T.wtR (kids.map Form.row)) : Int) ≤ left - (name.size : Nat) - (scopes.length : Nat) := by
      have hc := of_decide_eq_false hc3
      rcases Int.lt_or_le (left - (name.size : Nat) - (scopes.length : Nat)) ((kids.length + T.wtR (kids.map Form.row)) : Nat) with hh | hh
      · rw [szr_neg (by omega)] at hc; omega
      · omega
    have he3 : szr (kids.length + T.wtR (kids.map Form.row)) (left - (name.size : Nat) - (scopes.length : Nat)) = left - (name.size : Nat) - (scopes.length : Nat) - ((kids.length + T.wtR (kids.map Form.row)) : Nat) := szr_pos (by omega)
    rw [he3]
    refine awp_skip ?_
    refine k_seq ?_
    refine awp_seq ?_
    refine awp_region ?_
    refine r_move rfl (by conv => lhs; whnf) rfl ?_
    refine r_assign rfl (by conv => lhs; whnf) rfl ?_
    refine k_nil ?_
    refine k_seq ?_
    refine awp_ret ?_
    refine k_fin ?_
    have hr : szr wt left = left - (name.size : Nat) - (scopes.length : Nat) - ((kids.length + T.wtR (kids.map Form.row)) : Nat) := by rw [szr_pos (by omega)]; omega
    refine ends_pure [] (by simp only [Try.results25, resOf, List.length_map, hw1, ev_tmp, ev_const, ev_func, upd_at, slots_cons, slots_nil, objs_cons, objs_nil, Nat.reduceLT, Nat.reduceEqDiff, Nat.reduceAdd, reduceIte, if_true, if_false, ofVal, ofS, noOb, reduceCtorEq]; rfl) (by rw [hr]; exact ⟨give_id _, trivial⟩) (by simp [V.idsL, V.ids])
termination_by f => SizeOf.sizeOf f
decreasing_by (have := List.sizeOf_lt_of_mem hk; simp only [Form.mk.sizeOf_spec]; omega)
theorem toFormS_of (l : List Form) (ih : ∀ f ∈ l, T.wtL f.row ≤ 2 ^ 30 → AC Try.prog 28 [.ag (f.row.map .t)] noOb (.ag (f.row.map .t)) noOb) (hl : T.wt (.sl (l.map Form.row)) ≤ 2 ^ 30) : AC Try.prog 44 [.t (.sl (l.map Form.row))] noOb (.t (.sl (l.map Form.row))) noOb := by
  simp only [T.wt, List.length_map] at hl
  refine AC_intro (rs := [_]) Try.func44 rfl (by kernel_rfl) (by simp [Try.ntmps44]) (by simp [noOb]) ?_
  intro C hC
  rw [Try.ntmps44]
  refine awp_seq ?_
  refine awp_region ?_
  refine r_assign rfl (by conv => lhs; whnf) rfl ?_
  refine k_nil ?_
  refine k_seq ?_
  refine awp_seq ?_
  refine awp_region ?_
  refine r_move rfl (by conv => lhs; whnf) rfl ?_
  refine r_len rfl yU37 (by conv => lhs; whnf) (by conv => lhs; whnf) rfl ?_
  refine r_make rfl yP24 yR26 rfl (by conv => lhs; whnf) (by conv => lhs; whnf) (by omega) (by simp only [List.length_map]; omega) rfl rfl ?_
  refine r_assign rfl (by conv => lhs; whnf) rfl ?_
  refine k_nil ?_
  refine k_seq ?_
  refine awp_seq ?_
  refine awp_seq ?_
  refine awp_region ?_
  refine r_assign rfl (by conv => lhs; whnf) rfl ?_
  refine k_nil ?_
  refine k_seq ?_
  refine awp_block ?_
  refine awp_for (fun j : Nat => l.length - j) (fun j => [(0, .t (.sl (l.map Form.row))), (3, .ar 7), (4, vi j)]) (fun j => [(7, .arr (mid Form.row [(.sc (.int .i64 0)), (.sc (.str ⟨#[]⟩)), (.sc (.int .i64 0)), .sl [], .sl []] l j) 26 true)]) (fun j => j ≤ l.length) 0 (Nat.zero_le _) ?_ ?_
  · refine weak_to _ _ (fun k hk => absurd rfl (hC k hk)) ?_ ?_
    · simp only [HasS, upd_at, reduceIte, Nat.reduceEqDiff, V.ids, List.not_mem_nil, false_imp_iff, implies_true, and_true, List.map_cons, List.map_nil]
      simp [slots, List.length_map, List.map_cons]
    · simp only [HasM, upd_at, reduceIte, Nat.reduceEqDiff, Ob.ids, List.not_mem_nil, false_imp_iff, implies_true, and_true, mid_zero, List.length_map, Int.toNat_natCast]
  · intro j hj
    refine awp_seq ?_
    refine awp_seq ?_
    refine awp_region ?_
    refine r_move rfl (by conv => lhs; whnf) rfl ?_
    refine r_move rfl (by conv => lhs; whnf) rfl ?_
    refine r_len rfl yU37 (by conv => lhs; whnf) (by conv => lhs; whnf) rfl ?_
    refine r_bin rfl (by conv => lhs; whnf) (by conv => lhs; whnf) (by simp only [List.length_map, abin, reduceIte, ne_eq, decide_not, Bool.not_true, Bool.not_false]; rfl) rfl ?_
    refine k_nil ?_
    refine k_seq ?_
    refine awp_cond rfl (fun hc => ?_) (fun hc => ?_)
    · have hlt : j < l.length := by have := of_decide_eq_true hc; omega
      have hget := map_get Form.row l j hlt
      have hmg := mid_get Form.row [(.sc (.int .i64 0)), (.sc (.str ⟨#[]⟩)), (.sc (.int .i64 0)), .sl [], .sl []] l j hlt
      have hms := mid_set Form.row [(.sc (.int .i64 0)), (.sc (.str ⟨#[]⟩)), (.sc (.int .i64 0)), .sl [], .sl []] l j hlt
      have hml := mid_lt Form.row [(.sc (.int .i64 0)), (.sc (.str ⟨#[]⟩)), (.sc (.int .i64 0)), .sl [], .sl []] l j hlt
      clear hc
      have hle := T.wtR_le Form.row l (j + 1)
      have hsucc := T.wtR_succ Form.row l j hlt
      have hkid := ih l[j] (List.getElem_mem hlt) (by omega)
      refine awp_skip ?_
      refine k_seq ?_
      refine awp_seq ?_
      refine awp_block ?_
      refine awp_region ?_
      refine r_move rfl (by conv => lhs; whnf) rfl ?_
      refine r_move rfl (by conv => lhs; whnf) rfl ?_
      refine r_move rfl (by conv => lhs; whnf) rfl ?_
      refine r_move rfl (by conv => lhs; whnf) rfl ?_
      refine r_indexAddr rfl yE37 (by conv => lhs; whnf) (by conv => lhs; whnf) (by omega) (by simp only [hget, hml, Form.row_len, Form.take, List.length_map, indexP, ev_tmp, ev_const, ev_func, upd_at, slots_cons, slots_nil, objs_cons, objs_nil, Nat.reduceLT, Nat.reduceEqDiff, Nat.reduceAdd, reduceIte, if_true, if_false, ofVal, ofS, noOb, reduceCtorEq]; rfl) rfl ?_
      refine r_loadN rfl yA39 yS39 (by conv => lhs; whnf) (by conv => lhs; whnf) (by simp only [hget, hml, Form.row_len, Form.take, List.length_map, List.take_succ_cons, List.take_zero, List.drop_succ_cons, List.drop_zero, List.take_nil, List.drop_nil, List.nil_append, List.cons_append, List.append_nil, List.length_cons, List.length_nil, List.head?_cons, List.map_cons, List.map_nil, Nat.reduceAdd, Nat.zero_add, List.length_map]; omega) (by (try simp only [hget, hml, Form.row_len, Form.take, List.length_map, List.take_succ_cons, List.take_zero, List.drop_succ_cons, List.drop_zero, List.take_nil, List.drop_nil, List.nil_append, List.cons_append, List.append_nil, List.length_cons, List.length_nil, List.head?_cons, List.map_cons, List.map_nil, Nat.reduceAdd, Nat.zero_add, List.length_map]); rfl) rfl ?_
      refine r_pure [] rfl rfl rfl (by conv => lhs; whnf) (by simp only [hget, hml, Form.row_len, Form.take, List.length_map, ev_tmp, ev_const, ev_func, upd_at, slots_cons, slots_nil, objs_cons, objs_nil, Nat.reduceLT, Nat.reduceEqDiff, Nat.reduceAdd, reduceIte, if_true, if_false, ofVal, ofS, noOb, reduceCtorEq, List.take_succ_cons, List.take_zero, List.drop_succ_cons, List.drop_zero, List.take_nil, List.drop_nil, List.nil_append, List.cons_append, List.append_nil, List.length_cons, List.length_nil, List.head?_cons, List.map_cons, List.map_nil, Nat.reduceAdd, Nat.zero_add, List.length_map, List.toList_toArray]; rfl) (by simp only [hget, hml, Form.row_len, Form.take, List.length_map, fzU, ev_tmp, ev_const, ev_func, upd_at, slots_cons, slots_nil, objs_cons, objs_nil, Nat.reduceLT, Nat.reduceEqDiff, Nat.reduceAdd, reduceIte, if_true, if_false, ofVal, ofS, noOb, reduceCtorEq]; rfl) (by simp only [app]; rfl) (hkid) (by exact ⟨(by first | exact pass_id rfl | exact pass_id (ids_row _) | exact .inr (.inl ⟨_, rfl, rfl, by simp [fz]⟩) | exact .inr (.inr ⟨_, _, rfl, rfl, rfl, by simp [fz]⟩)), trivial⟩) rfl ?_
      refine r_indexAddr rfl yE24 (by conv => lhs; whnf) (by conv => lhs; whnf) (by omega) (by simp only [hget, hml, Form.row_len, Form.take, List.length_map, indexP, ev_tmp, ev_const, ev_func, upd_at, slots_cons, slots_nil, objs_cons, objs_nil, Nat.reduceLT, Nat.reduceEqDiff, Nat.reduceAdd, reduceIte, if_true, if_false, ofVal, ofS, noOb, reduceCtorEq]; rfl) rfl ?_
      refine r_storeA rfl (by conv => lhs; whnf) (by conv => lhs; whnf) (by conv => lhs; whnf) (by simp only [vcells]; rfl) (by first | rfl | simp only [hget, hml, Form.row_len, Form.take, List.length_map, vcells, oneAll_t]) (by rw [yS26]; simp only [hget, hml, Form.row_len, Form.take, List.length_map, vcells, List.take_succ_cons, List.take_zero, List.drop_succ_cons, List.drop_zero, List.take_nil, List.drop_nil, List.nil_append, List.cons_append, List.append_nil, List.length_cons, List.length_nil, List.head?_cons, List.map_cons, List.map_nil, Nat.reduceAdd, Nat.zero_add, List.length_map]) hmg (by simp only [hget, hml, Form.row_len, Form.take, List.length_map, toTs_t]; rfl) (by rfl) yS26 (by simp only [hget, hml, Form.row_len, Form.take, List.length_map, vcells, List.take_succ_cons, List.take_zero, List.drop_succ_cons, List.drop_zero, List.take_nil, List.drop_nil, List.nil_append, List.cons_append, List.append_nil, List.length_cons, List.length_nil, List.head?_cons, List.map_cons, List.map_nil, Nat.reduceAdd, Nat.zero_add, List.length_map]; omega) (by simp [fz, fz_t]) (by simp only [hget, hml, Form.row_len, Form.take, List.length_map, vcells, fz_t, fz, List.flatMap_cons, List.flatMap_nil, List.take_succ_cons, List.take_zero, List.drop_succ_cons, List.drop_zero, List.take_nil, List.drop_nil, List.nil_append, List.cons_append, List.append_nil, List.length_cons, List.length_nil, List.head?_cons, List.map_cons, List.map_nil, Nat.reduceAdd, Nat.zero_add, List.length_map, fzU]; rfl) rfl (Eq.trans (by rw [splice_all (by simp only [Form.row_len, List.length_cons, List.length_nil]; omega)]) hms) rfl ?_
      refine k_nil ?_
      refine k_blk ?_
      refine k_seq ?_
      refine awp_region ?_
      refine r_move rfl (by conv => lhs; whnf) rfl ?_
      refine r_bin rfl (by conv => lhs; whnf) (by conv => lhs; whnf) (by simp only [hget, hml, Form.row_len, Form.take, List.length_map, abin, reduceIte, ne_eq, decide_not, Bool.not_true, Bool.not_false]; rfl) rfl ?_
      refine r_assign rfl (by conv => lhs; whnf) rfl ?_
      refine k_nil ?_
      refine k_for (j + 1) hlt (by show l.length - (j + 1) < l.length - j; omega) ?_
      refine weak_to _ _ (fun k hk => absurd rfl (hC k hk)) ?_ ?_
      · simp only [HasS, upd_at, slots_cons, reduceIte, Nat.reduceEqDiff, V.ids, List.not_mem_nil, false_imp_iff, implies_true, and_true]
        rw [IntWalk.i64_in _ (by omega)]
        simp [slots, List.length_map]
      · simp only [HasM, upd_at, objs_cons, reduceIte, Nat.reduceEqDiff, Ob.ids, List.not_mem_nil, false_imp_iff, implies_true, and_true]
    · have hje : j = l.length := by have := of_decide_eq_false hc; omega
      subst hje
      rw [mid_all]
      refine awp_exit ?_
      refine k_seq_exit ?_
      refine k_for_exit ?_
      refine k_blk_exit ?_
      refine k_seq ?_
      refine awp_seq ?_
      refine awp_region ?_
      refine r_move rfl (by conv => lhs; whnf) rfl ?_
      refine r_assign rfl (by conv => lhs; whnf) rfl ?_
      refine k_nil ?_
      refine k_seq ?_
      refine awp_ret ?_
      refine k_fin ?_
      refine ends_pure [7] (by simp only [Try.results44, resOf, List.length_map, ev_tmp, ev_const, ev_func, upd_at, slots_cons, slots_nil, objs_cons, objs_nil, Nat.reduceLT, Nat.reduceEqDiff, Nat.reduceAdd, reduceIte, if_true, if_false, ofVal, ofS, noOb, reduceCtorEq]; rfl) (by exact ⟨.inr (.inl ⟨_, by simp only [fzU, app, upd_at, objs_cons, reduceIte, toT, ev_tmp, ev_const, ev_func, upd_at, slots_cons, slots_nil, objs_cons, objs_nil, Nat.reduceLT, Nat.reduceEqDiff, Nat.reduceAdd, reduceIte, if_true, if_false, ofVal, ofS, noOb, reduceCtorEq] <;> rfl, rfl, by simp [fz]⟩), trivial⟩) (by simp [V.idsL, V.ids])
theorem toForm_ok : ∀ (f : Form), T.wtL f.row ≤ 2 ^ 30 → AC Try.prog 28 [.ag (f.row.map .t)] noOb (.ag (f.row.map .t)) noOb
  | (Form.mk kind name n scopes kids), hl => by
    rw [Form.row_mk] at hl ⊢
    simp only [T.wtL, T.wt, S.wt, T.wtR_ints, List.length_map] at hl
    refine AC_intro (rs := [_]) Try.func28 rfl (by kernel_rfl) (by simp [Try.ntmps28]) (by simp [noOb]) ?_
    intro C hC
    rw [Try.ntmps28]
    refine awp_seq ?_
    refine awp_region ?_
    refine r_box rfl (by conv => lhs; whnf) rfl (by conv => lhs; whnf) rfl rfl ?_
    refine r_alloc rfl yZ26 rfl rfl ?_
    refine k_nil ?_
    refine k_seq ?_
    refine awp_seq ?_
    refine awp_region ?_
    refine r_alloc rfl yZ26 rfl rfl ?_
    refine k_nil ?_
    refine k_seq ?_
    refine awp_seq ?_
    refine awp_region ?_
    refine r_fieldAddr rfl yF39_0 (by conv => lhs; whnf) (by conv => lhs; whnf) rfl ?_
    refine r_load1 rfl yA3 (by conv => lhs; whnf) (by conv => lhs; whnf) (by (try simp only [List.take_succ_cons, List.take_zero, List.drop_succ_cons, List.drop_zero, List.take_nil, List.drop_nil, List.nil_append, List.cons_append, List.append_nil, List.length_cons, List.length_nil, List.head?_cons, List.map_cons, List.map_nil, Nat.reduceAdd, Nat.zero_add, List.length_map]); rfl) rfl ?_
    refine r_fieldAddr rfl yF26_0 (by conv => lhs; whnf) (by conv => lhs; whnf) rfl ?_
    refine r_storeB rfl (by conv => lhs; whnf) (by conv => lhs; whnf) (by conv => lhs; whnf) (by conv => lhs; whnf) (by first | rfl | simp only [oneAll_t]) (by rw [yS3]; simp only [List.take_succ_cons, List.take_zero, List.drop_succ_cons, List.drop_zero, List.take_nil, List.drop_nil, List.nil_append, List.cons_append, List.append_nil, List.length_cons, List.length_nil, List.head?_cons, List.map_cons, List.map_nil, Nat.reduceAdd, Nat.zero_add, List.length_map]) (by simp only [List.take_succ_cons, List.take_zero, List.drop_succ_cons, List.drop_zero, List.take_nil, List.drop_nil, List.nil_append, List.cons_append, List.append_nil, List.length_cons, List.length_nil, List.head?_cons, List.map_cons, List.map_nil, Nat.reduceAdd, Nat.zero_add, List.length_map]; omega) (by simp only [splice, List.take_succ_cons, List.take_zero, List.drop_succ_cons, List.drop_zero, List.take_nil, List.drop_nil, List.nil_append, List.cons_append, List.append_nil, List.length_cons, List.length_nil, List.head?_cons, List.map_cons, List.map_nil, Nat.reduceAdd, Nat.zero_add, List.length_map]; rfl) rfl ?_
    refine k_nil ?_
    refine k_seq ?_
    refine awp_seq ?_
    refine awp_region ?_
    refine r_fieldAddr rfl yF39_1 (by conv => lhs; whnf) (by conv => lhs; whnf) rfl ?_
    refine r_load1 rfl yA9 (by conv => lhs; whnf) (by conv => lhs; whnf) (by (try simp only [List.take_succ_cons, List.take_zero, List.drop_succ_cons, List.drop_zero, List.take_nil, List.drop_nil, List.nil_append, List.cons_append, List.append_nil, List.length_cons, List.length_nil, List.head?_cons, List.map_cons, List.map_nil, Nat.reduceAdd, Nat.zero_add, List.length_map]); rfl) rfl ?_
    refine r_fieldAddr rfl yF26_1 (by conv => lhs; whnf) (by conv => lhs; whnf) rfl ?_
    refine r_storeB rfl (by conv => lhs; whnf) (by conv => lhs; whnf) (by conv => lhs; whnf) (by conv => lhs; whnf) (by first | rfl | simp only [oneAll_t]) (by rw [yS9]; simp only [List.take_succ_cons, List.take_zero, List.drop_succ_cons, List.drop_zero, List.take_nil, List.drop_nil, List.nil_append, List.cons_append, List.append_nil, List.length_cons, List.length_nil, List.head?_cons, List.map_cons, List.map_nil, Nat.reduceAdd, Nat.zero_add, List.length_map]) (by simp only [List.take_succ_cons, List.take_zero, List.drop_succ_cons, List.drop_zero, List.take_nil, List.drop_nil, List.nil_append, List.cons_append, List.append_nil, List.length_cons, List.length_nil, List.head?_cons, List.map_cons, List.map_nil, Nat.reduceAdd, Nat.zero_add, List.length_map]; omega) (by simp only [splice, List.take_succ_cons, List.take_zero, List.drop_succ_cons, List.drop_zero, List.take_nil, List.drop_nil, List.nil_append, List.cons_append, List.append_nil, List.length_cons, List.length_nil, List.head?_cons, List.map_cons, List.map_nil, Nat.reduceAdd, Nat.zero_add, List.length_map]; rfl) rfl ?_
    refine k_nil ?_
    refine k_seq ?_
    refine awp_seq ?_
    refine awp_region ?_
    refine r_fieldAddr rfl yF39_2 (by conv => lhs; whnf) (by conv => lhs; whnf) rfl ?_
    refine r_load1 rfl yA3 (by conv => lhs; whnf) (by conv => lhs; whnf) (by (try simp only [List.take_succ_cons, List.take_zero, List.drop_succ_cons, List.drop_zero, List.take_nil, List.drop_nil, List.nil_append, List.cons_append, List.append_nil, List.length_cons, List.length_nil, List.head?_cons, List.map_cons, List.map_nil, Nat.reduceAdd, Nat.zero_add, List.length_map]); rfl) rfl ?_
    refine r_fieldAddr rfl yF26_2 (by conv => lhs; whnf) (by conv => lhs; whnf) rfl ?_
    refine r_storeB rfl (by conv => lhs; whnf) (by conv => lhs; whnf) (by conv => lhs; whnf) (by conv => lhs; whnf) (by first | rfl | simp only [oneAll_t]) (by rw [yS3]; simp only [List.take_succ_cons, List.take_zero, List.drop_succ_cons, List.drop_zero, List.take_nil, List.drop_nil, List.nil_append, List.cons_append, List.append_nil, List.length_cons, List.length_nil, List.head?_cons, List.map_cons, List.map_nil, Nat.reduceAdd, Nat.zero_add, List.length_map]) (by simp only [List.take_succ_cons, List.take_zero, List.drop_succ_cons, List.drop_zero, List.take_nil, List.drop_nil, List.nil_append, List.cons_append, List.append_nil, List.length_cons, List.length_nil, List.head?_cons, List.map_cons, List.map_nil, Nat.reduceAdd, Nat.zero_add, List.length_map]; omega) (by simp only [splice, List.take_succ_cons, List.take_zero, List.drop_succ_cons, List.drop_zero, List.take_nil, List.drop_nil, List.nil_append, List.cons_append, List.append_nil, List.length_cons, List.length_nil, List.head?_cons, List.map_cons, List.map_nil, Nat.reduceAdd, Nat.zero_add, List.length_map]; rfl) rfl ?_
    refine k_nil ?_
    refine k_seq ?_
    refine awp_seq ?_
    refine awp_region ?_
    refine r_fieldAddr rfl yF39_3 (by conv => lhs; whnf) (by conv => lhs; whnf) rfl ?_
    refine r_load1 rfl yA23 (by conv => lhs; whnf) (by conv => lhs; whnf) (by (try simp only [List.take_succ_cons, List.take_zero, List.drop_succ_cons, List.drop_zero, List.take_nil, List.drop_nil, List.nil_append, List.cons_append, List.append_nil, List.length_cons, List.length_nil, List.head?_cons, List.map_cons, List.map_nil, Nat.reduceAdd, Nat.zero_add, List.length_map]); rfl) rfl ?_
    have hk1 := toIntS_ok scopes (by omega)
    refine r_pure [] rfl rfl rfl (by conv => lhs; whnf) (by simp only [ev_tmp, ev_const, ev_func, upd_at, slots_cons, slots_nil, objs_cons, objs_nil, Nat.reduceLT, Nat.reduceEqDiff, Nat.reduceAdd, reduceIte, if_true, if_false, ofVal, ofS, noOb, reduceCtorEq, List.take_succ_cons, List.take_zero, List.drop_succ_cons, List.drop_zero, List.take_nil, List.drop_nil, List.nil_append, List.cons_append, List.append_nil, List.length_cons, List.length_nil, List.head?_cons, List.map_cons, List.map_nil, Nat.reduceAdd, Nat.zero_add, List.length_map, List.toList_toArray]; rfl) (by simp only [fzU, ev_tmp, ev_const, ev_func, upd_at, slots_cons, slots_nil, objs_cons, objs_nil, Nat.reduceLT, Nat.reduceEqDiff, Nat.reduceAdd, reduceIte, if_true, if_false, ofVal, ofS, noOb, reduceCtorEq]; rfl) (by simp only [app]; rfl) (hk1) (by exact ⟨(by first | exact pass_id rfl | exact pass_id (ids_row _) | exact .inr (.inl ⟨_, rfl, rfl, by simp [fz]⟩) | exact .inr (.inr ⟨_, _, rfl, rfl, rfl, by simp [fz]⟩)), trivial⟩) rfl ?_
    refine r_fieldAddr rfl yF26_3 (by conv => lhs; whnf) (by conv => lhs; whnf) rfl ?_
    refine r_storeB rfl (by conv => lhs; whnf) (by conv => lhs; whnf) (by conv => lhs; whnf) (by conv => lhs; whnf) (by first | rfl | simp only [oneAll_t]) (by rw [yS23]; simp only [List.take_succ_cons, List.take_zero, List.drop_succ_cons, List.drop_zero, List.take_nil, List.drop_nil, List.nil_append, List.cons_append, List.append_nil, List.length_cons, List.length_nil, List.head?_cons, List.map_cons, List.map_nil, Nat.reduceAdd, Nat.zero_add, List.length_map]) (by simp only [List.take_succ_cons, List.take_zero, List.drop_succ_cons, List.drop_zero, List.take_nil, List.drop_nil, List.nil_append, List.cons_append, List.append_nil, List.length_cons, List.length_nil, List.head?_cons, List.map_cons, List.map_nil, Nat.reduceAdd, Nat.zero_add, List.length_map]; omega) (by simp only [splice, List.take_succ_cons, List.take_zero, List.drop_succ_cons, List.drop_zero, List.take_nil, List.drop_nil, List.nil_append, List.cons_append, List.append_nil, List.length_cons, List.length_nil, List.head?_cons, List.map_cons, List.map_nil, Nat.reduceAdd, Nat.zero_add, List.length_map]; rfl) rfl ?_
    refine k_nil ?_
    refine k_seq ?_
    refine awp_seq ?_
    refine awp_region ?_
    refine r_fieldAddr rfl yF39_4 (by conv => lhs; whnf) (by conv => lhs; whnf) rfl ?_
    refine r_load1 rfl yA37 (by conv => lhs; whnf) (by conv => lhs; whnf) (by (try simp only [List.take_succ_cons, List.take_zero, List.drop_succ_cons, List.drop_zero, List.take_nil, List.drop_nil, List.nil_append, List.cons_append, List.append_nil, List.length_cons, List.length_nil, List.head?_cons, List.map_cons, List.map_nil, Nat.reduceAdd, Nat.zero_add, List.length_map]); rfl) rfl ?_
    have hk2 := toFormS_of kids (fun k hk => toForm_ok k) (by simp only [T.wt, List.length_map]; omega)
    refine r_pure [] rfl rfl rfl (by conv => lhs; whnf) (by simp only [ev_tmp, ev_const, ev_func, upd_at, slots_cons, slots_nil, objs_cons, objs_nil, Nat.reduceLT, Nat.reduceEqDiff, Nat.reduceAdd, reduceIte, if_true, if_false, ofVal, ofS, noOb, reduceCtorEq, List.take_succ_cons, List.take_zero, List.drop_succ_cons, List.drop_zero, List.take_nil, List.drop_nil, List.nil_append, List.cons_append, List.append_nil, List.length_cons, List.length_nil, List.head?_cons, List.map_cons, List.map_nil, Nat.reduceAdd, Nat.zero_add, List.length_map, List.toList_toArray]; rfl) (by simp only [fzU, ev_tmp, ev_const, ev_func, upd_at, slots_cons, slots_nil, objs_cons, objs_nil, Nat.reduceLT, Nat.reduceEqDiff, Nat.reduceAdd, reduceIte, if_true, if_false, ofVal, ofS, noOb, reduceCtorEq]; rfl) (by simp only [app]; rfl) (hk2) (by exact ⟨(by first | exact pass_id rfl | exact pass_id (ids_row _) | exact .inr (.inl ⟨_, rfl, rfl, by simp [fz]⟩) | exact .inr (.inr ⟨_, _, rfl, rfl, rfl, by simp [fz]⟩)), trivial⟩) rfl ?_
    refine r_fieldAddr rfl yF26_4 (by conv => lhs; whnf) (by conv => lhs; whnf) rfl ?_
    refine r_storeB rfl (by conv => lhs; whnf) (by conv => lhs; whnf) (by conv => lhs; whnf) (by conv => lhs; whnf) (by first | rfl | simp only [oneAll_t]) (by rw [yS24]; simp only [List.take_succ_cons, List.take_zero, List.drop_succ_cons, List.drop_zero, List.take_nil, List.drop_nil, List.nil_append, List.cons_append, List.append_nil, List.length_cons, List.length_nil, List.head?_cons, List.map_cons, List.map_nil, Nat.reduceAdd, Nat.zero_add, List.length_map]) (by simp only [List.take_succ_cons, List.take_zero, List.drop_succ_cons, List.drop_zero, List.take_nil, List.drop_nil, List.nil_append, List.cons_append, List.append_nil, List.length_cons, List.length_nil, List.head?_cons, List.map_cons, List.map_nil, Nat.reduceAdd, Nat.zero_add, List.length_map]; omega) (by simp only [splice, List.take_succ_cons, List.take_zero, List.drop_succ_cons, List.drop_zero, List.take_nil, List.drop_nil, List.nil_append, List.cons_append, List.append_nil, List.length_cons, List.length_nil, List.head?_cons, List.map_cons, List.map_nil, Nat.reduceAdd, Nat.zero_add, List.length_map]; rfl) rfl ?_
    refine k_nil ?_
    refine k_seq ?_
    refine awp_seq ?_
    refine awp_region ?_
    refine r_loadN rfl yA26 yS26 (by conv => lhs; whnf) (by conv => lhs; whnf) (by simp only [List.take_succ_cons, List.take_zero, List.drop_succ_cons, List.drop_zero, List.take_nil, List.drop_nil, List.nil_append, List.cons_append, List.append_nil, List.length_cons, List.length_nil, List.head?_cons, List.map_cons, List.map_nil, Nat.reduceAdd, Nat.zero_add, List.length_map]; omega) (by (try simp only [List.take_succ_cons, List.take_zero, List.drop_succ_cons, List.drop_zero, List.take_nil, List.drop_nil, List.nil_append, List.cons_append, List.append_nil, List.length_cons, List.length_nil, List.head?_cons, List.map_cons, List.map_nil, Nat.reduceAdd, Nat.zero_add, List.length_map]); rfl) rfl ?_
    refine r_storeB rfl (by conv => lhs; whnf) (by conv => lhs; whnf) (by conv => lhs; whnf) (by conv => lhs; whnf) (by first | rfl | simp only [oneAll_t]) (by rw [yS26]; simp only [List.take_succ_cons, List.take_zero, List.drop_succ_cons, List.drop_zero, List.take_nil, List.drop_nil, List.nil_append, List.cons_append, List.append_nil, List.length_cons, List.length_nil, List.head?_cons, List.map_cons, List.map_nil, Nat.reduceAdd, Nat.zero_add, List.length_map]) (by simp only [List.take_succ_cons, List.take_zero, List.drop_succ_cons, List.drop_zero, List.take_nil, List.drop_nil, List.nil_append, List.cons_append, List.append_nil, List.length_cons, List.length_nil, List.head?_cons, List.map_cons, List.map_nil, Nat.reduceAdd, Nat.zero_add, List.length_map]; omega) (splice_all (by simp only [List.take_succ_cons, List.take_zero, List.drop_succ_cons, List.drop_zero, List.take_nil, List.drop_nil, List.nil_append, List.cons_append, List.append_nil, List.length_cons, List.length_nil, List.head?_cons, List.map_cons, List.map_nil, Nat.reduceAdd, Nat.zero_add, List.length_map]; omega)) rfl ?_
    refine k_nil ?_
    refine k_seq ?_
    refine awp_ret ?_
    refine k_fin ?_
    refine ends_pure [] (by simp only [Try.results28, resOf, List.length_map, ev_tmp, ev_const, ev_func, upd_at, slots_cons, slots_nil, objs_cons, objs_nil, Nat.reduceLT, Nat.reduceEqDiff, Nat.reduceAdd, reduceIte, if_true, if_false, ofVal, ofS, noOb, reduceCtorEq]; rfl) (by skip; exact ⟨give_id _, trivial⟩) (by simp [V.idsL, V.ids])
termination_by f => SizeOf.sizeOf f
decreasing_by (have := List.sizeOf_lt_of_mem hk; simp only [Form.mk.sizeOf_spec]; omega)
theorem eqFormS_of (l : List Form) (ih : ∀ f ∈ l, T.wtL f.row ≤ 2 ^ 30 → AC Try.prog 31 [.ag (f.row.map .t), .ag (f.row.map .t)] noOb (vb true) noOb) (hl : T.wt (.sl (l.map Form.row)) ≤ 2 ^ 30) : AC Try.prog 45 [.t (.sl (l.map Form.row)), .t (.sl (l.map Form.row))] noOb (vb true) noOb := by
  simp only [T.wt, List.length_map] at hl
  refine AC_intro (rs := [_]) Try.func45 rfl (by kernel_rfl) (by simp [Try.ntmps45]) (by simp [noOb]) ?_
  intro C hC
  rw [Try.ntmps45]
  refine awp_seq ?_
  refine awp_region ?_
  refine r_assign rfl (by conv => lhs; whnf) rfl ?_
  refine k_nil ?_
  refine k_seq ?_
  refine awp_seq ?_
  refine awp_seq ?_
  refine awp_region ?_
  refine r_move rfl (by conv => lhs; whnf) rfl ?_
  refine r_len rfl yU24 (by conv => lhs; whnf) (by conv => lhs; whnf) rfl ?_
  refine r_move rfl (by conv => lhs; whnf) rfl ?_
  refine r_len rfl yU24 (by conv => lhs; whnf) (by conv => lhs; whnf) rfl ?_
  refine r_bin rfl (by conv => lhs; whnf) (by conv => lhs; whnf) (by simp only [List.length_map, abin, reduceIte, ne_eq, decide_not, Bool.not_true, Bool.not_false]; rfl) rfl ?_
  refine k_nil ?_
  refine k_seq ?_
  refine awp_cond rfl (fun hc => ?_) (fun hc => ?_)
  · exact absurd hc (by simp)
  · clear hc
    refine awp_skip ?_
    refine k_seq ?_
    refine awp_seq ?_
    refine awp_seq ?_
    refine awp_region ?_
    refine r_assign rfl (by conv => lhs; whnf) rfl ?_
    refine k_nil ?_
    refine k_seq ?_
    refine awp_block ?_
    refine awp_for (fun j : Nat => l.length - j) (fun j => [(0, .t (.sl (l.map Form.row))), (1, .t (.sl (l.map Form.row))), (5, vi j)]) (fun _ => []) (fun j => j ≤ l.length) 0 (Nat.zero_le _) ?_ ?_
    · refine weak_to _ _ (fun k hk => absurd rfl (hC k hk)) ?_ trivial
      simp only [HasS, upd_at, reduceIte, Nat.reduceEqDiff, V.ids, List.not_mem_nil, false_imp_iff, implies_true, and_true]
      simp [slots]
    · intro j hj
      refine awp_seq ?_
      refine awp_seq ?_
      refine awp_region ?_
      refine r_move rfl (by conv => lhs; whnf) rfl ?_
      refine r_move rfl (by conv => lhs; whnf) rfl ?_
      refine r_len rfl yU24 (by conv => lhs; whnf) (by conv => lhs; whnf) rfl ?_
      refine r_bin rfl (by conv => lhs; whnf) (by conv => lhs; whnf) (by simp only [List.length_map, abin, reduceIte, ne_eq, decide_not, Bool.not_true, Bool.not_false]; rfl) rfl ?_
      refine k_nil ?_
      refine k_seq ?_
      refine awp_cond rfl (fun hc => ?_) (fun hc => ?_)
      · have hlt : j < l.length := by have := of_decide_eq_true hc; omega
        have hget := map_get Form.row l j hlt
        clear hc
        have hle := T.wtR_le Form.row l (j + 1)
        have hsucc := T.wtR_succ Form.row l j hlt
        have hkid := ih l[j] (List.getElem_mem hlt) (by omega)
        refine awp_skip ?_
        refine k_seq ?_
        refine awp_seq ?_
        refine awp_block ?_
        refine awp_seq ?_
        refine awp_draw yMix (by kernel_rfl) ?_
        refine r_move rfl (by conv => lhs; whnf) (by simp only [fpOf, idOf, Option.getD_some, Option.getD_none, Op.operands, Call.operands, V.idsL, V.ids, idsL_t, List.append_nil, List.nil_append, List.cons_append, List.toList_toArray, List.map_toArray, List.size_toArray, List.append_toArray, ev_tmp, ev_const, ev_func, upd_at, slots_cons, slots_nil, objs_cons, objs_nil, Nat.reduceLT, Nat.reduceEqDiff, Nat.reduceAdd, reduceIte, if_true, if_false, ofVal, ofS, noOb, reduceCtorEq, List.take_succ_cons, List.take_zero, List.drop_succ_cons, List.drop_zero, List.take_nil, List.drop_nil, List.nil_append, List.cons_append, List.append_nil, List.length_cons, List.length_nil, List.head?_cons, List.map_cons, List.map_nil, Nat.reduceAdd, Nat.zero_add, List.length_map, hget, Form.row_len, Form.take, List.length_map]; rfl) ?_
        refine r_move rfl (by conv => lhs; whnf) (by simp only [fpOf, idOf, Option.getD_some, Option.getD_none, Op.operands, Call.operands, V.idsL, V.ids, idsL_t, List.append_nil, List.nil_append, List.cons_append, List.toList_toArray, List.map_toArray, List.size_toArray, List.append_toArray, ev_tmp, ev_const, ev_func, upd_at, slots_cons, slots_nil, objs_cons, objs_nil, Nat.reduceLT, Nat.reduceEqDiff, Nat.reduceAdd, reduceIte, if_true, if_false, ofVal, ofS, noOb, reduceCtorEq, List.take_succ_cons, List.take_zero, List.drop_succ_cons, List.drop_zero, List.take_nil, List.drop_nil, List.nil_append, List.cons_append, List.append_nil, List.length_cons, List.length_nil, List.head?_cons, List.map_cons, List.map_nil, Nat.reduceAdd, Nat.zero_add, List.length_map, hget, Form.row_len, Form.take, List.length_map]; rfl) ?_
        refine r_indexAddr rfl yE24 (by conv => lhs; whnf) (by conv => lhs; whnf) (by omega) (by simp only [hget, Form.row_len, Form.take, List.length_map, indexP, ev_tmp, ev_const, ev_func, upd_at, slots_cons, slots_nil, objs_cons, objs_nil, Nat.reduceLT, Nat.reduceEqDiff, Nat.reduceAdd, reduceIte, if_true, if_false, ofVal, ofS, noOb, reduceCtorEq]; rfl) (by simp only [fpOf, idOf, Option.getD_some, Option.getD_none, Op.operands, Call.operands, V.idsL, V.ids, idsL_t, List.append_nil, List.nil_append, List.cons_append, List.toList_toArray, List.map_toArray, List.size_toArray, List.append_toArray, ev_tmp, ev_const, ev_func, upd_at, slots_cons, slots_nil, objs_cons, objs_nil, Nat.reduceLT, Nat.reduceEqDiff, Nat.reduceAdd, reduceIte, if_true, if_false, ofVal, ofS, noOb, reduceCtorEq, List.take_succ_cons, List.take_zero, List.drop_succ_cons, List.drop_zero, List.take_nil, List.drop_nil, List.nil_append, List.cons_append, List.append_nil, List.length_cons, List.length_nil, List.head?_cons, List.map_cons, List.map_nil, Nat.reduceAdd, Nat.zero_add, List.length_map, hget, Form.row_len, Form.take, List.length_map]; rfl) ?_
        refine r_loadN rfl yA26 yS26 (by conv => lhs; whnf) (by conv => lhs; whnf) (by simp only [hget, Form.row_len, Form.take, List.length_map, List.take_succ_cons, List.take_zero, List.drop_succ_cons, List.drop_zero, List.take_nil, List.drop_nil, List.nil_append, List.cons_append, List.append_nil, List.length_cons, List.length_nil, List.head?_cons, List.map_cons, List.map_nil, Nat.reduceAdd, Nat.zero_add, List.length_map]; omega) (by (try simp only [hget, Form.row_len, Form.take, List.length_map, List.take_succ_cons, List.take_zero, List.drop_succ_cons, List.drop_zero, List.take_nil, List.drop_nil, List.nil_append, List.cons_append, List.append_nil, List.length_cons, List.length_nil, List.head?_cons, List.map_cons, List.map_nil, Nat.reduceAdd, Nat.zero_add, List.length_map]); rfl) (by simp only [fpOf, idOf, Option.getD_some, Option.getD_none, Op.operands, Call.operands, V.idsL, V.ids, idsL_t, List.append_nil, List.nil_append, List.cons_append, List.toList_toArray, List.map_toArray, List.size_toArray, List.append_toArray, ev_tmp, ev_const, ev_func, upd_at, slots_cons, slots_nil, objs_cons, objs_nil, Nat.reduceLT, Nat.reduceEqDiff, Nat.reduceAdd, reduceIte, if_true, if_false, ofVal, ofS, noOb, reduceCtorEq, List.take_succ_cons, List.take_zero, List.drop_succ_cons, List.drop_zero, List.take_nil, List.drop_nil, List.nil_append, List.cons_append, List.append_nil, List.length_cons, List.length_nil, List.head?_cons, List.map_cons, List.map_nil, Nat.reduceAdd, Nat.zero_add, List.length_map, hget, Form.row_len, Form.take, List.length_map]; rfl) ?_
        refine r_move rfl (by conv => lhs; whnf) (by simp only [fpOf, idOf, Option.getD_some, Option.getD_none, Op.operands, Call.operands, V.idsL, V.ids, idsL_t, List.append_nil, List.nil_append, List.cons_append, List.toList_toArray, List.map_toArray, List.size_toArray, List.append_toArray, ev_tmp, ev_const, ev_func, upd_at, slots_cons, slots_nil, objs_cons, objs_nil, Nat.reduceLT, Nat.reduceEqDiff, Nat.reduceAdd, reduceIte, if_true, if_false, ofVal, ofS, noOb, reduceCtorEq, List.take_succ_cons, List.take_zero, List.drop_succ_cons, List.drop_zero, List.take_nil, List.drop_nil, List.nil_append, List.cons_append, List.append_nil, List.length_cons, List.length_nil, List.head?_cons, List.map_cons, List.map_nil, Nat.reduceAdd, Nat.zero_add, List.length_map, hget, Form.row_len, Form.take, List.length_map]; rfl) ?_
        refine r_move rfl (by conv => lhs; whnf) (by simp only [fpOf, idOf, Option.getD_some, Option.getD_none, Op.operands, Call.operands, V.idsL, V.ids, idsL_t, List.append_nil, List.nil_append, List.cons_append, List.toList_toArray, List.map_toArray, List.size_toArray, List.append_toArray, ev_tmp, ev_const, ev_func, upd_at, slots_cons, slots_nil, objs_cons, objs_nil, Nat.reduceLT, Nat.reduceEqDiff, Nat.reduceAdd, reduceIte, if_true, if_false, ofVal, ofS, noOb, reduceCtorEq, List.take_succ_cons, List.take_zero, List.drop_succ_cons, List.drop_zero, List.take_nil, List.drop_nil, List.nil_append, List.cons_append, List.append_nil, List.length_cons, List.length_nil, List.head?_cons, List.map_cons, List.map_nil, Nat.reduceAdd, Nat.zero_add, List.length_map, hget, Form.row_len, Form.take, List.length_map]; rfl) ?_
        refine r_indexAddr rfl yE24 (by conv => lhs; whnf) (by conv => lhs; whnf) (by omega) (by simp only [hget, Form.row_len, Form.take, List.length_map, indexP, ev_tmp, ev_const, ev_func, upd_at, slots_cons, slots_nil, objs_cons, objs_nil, Nat.reduceLT, Nat.reduceEqDiff, Nat.reduceAdd, reduceIte, if_true, if_false, ofVal, ofS, noOb, reduceCtorEq]; rfl) (by simp only [fpOf, idOf, Option.getD_some, Option.getD_none, Op.operands, Call.operands, V.idsL, V.ids, idsL_t, List.append_nil, List.nil_append, List.cons_append, List.toList_toArray, List.map_toArray, List.size_toArray, List.append_toArray, ev_tmp, ev_const, ev_func, upd_at, slots_cons, slots_nil, objs_cons, objs_nil, Nat.reduceLT, Nat.reduceEqDiff, Nat.reduceAdd, reduceIte, if_true, if_false, ofVal, ofS, noOb, reduceCtorEq, List.take_succ_cons, List.take_zero, List.drop_succ_cons, List.drop_zero, List.take_nil, List.drop_nil, List.nil_append, List.cons_append, List.append_nil, List.length_cons, List.length_nil, List.head?_cons, List.map_cons, List.map_nil, Nat.reduceAdd, Nat.zero_add, List.length_map, hget, Form.row_len, Form.take, List.length_map]; rfl) ?_
        refine r_loadN rfl yA26 yS26 (by conv => lhs; whnf) (by conv => lhs; whnf) (by simp only [hget, Form.row_len, Form.take, List.length_map, List.take_succ_cons, List.take_zero, List.drop_succ_cons, List.drop_zero, List.take_nil, List.drop_nil, List.nil_append, List.cons_append, List.append_nil, List.length_cons, List.length_nil, List.head?_cons, List.map_cons, List.map_nil, Nat.reduceAdd, Nat.zero_add, List.length_map]; omega) (by (try simp only [hget, Form.row_len, Form.take, List.length_map, List.take_succ_cons, List.take_zero, List.drop_succ_cons, List.drop_zero, List.take_nil, List.drop_nil, List.nil_append, List.cons_append, List.append_nil, List.length_cons, List.length_nil, List.head?_cons, List.map_cons, List.map_nil, Nat.reduceAdd, Nat.zero_add, List.length_map]); rfl) (by simp only [fpOf, idOf, Option.getD_some, Option.getD_none, Op.operands, Call.operands, V.idsL, V.ids, idsL_t, List.append_nil, List.nil_append, List.cons_append, List.toList_toArray, List.map_toArray, List.size_toArray, List.append_toArray, ev_tmp, ev_const, ev_func, upd_at, slots_cons, slots_nil, objs_cons, objs_nil, Nat.reduceLT, Nat.reduceEqDiff, Nat.reduceAdd, reduceIte, if_true, if_false, ofVal, ofS, noOb, reduceCtorEq, List.take_succ_cons, List.take_zero, List.drop_succ_cons, List.drop_zero, List.take_nil, List.drop_nil, List.nil_append, List.cons_append, List.append_nil, List.length_cons, List.length_nil, List.head?_cons, List.map_cons, List.map_nil, Nat.reduceAdd, Nat.zero_add, List.length_map, hget, Form.row_len, Form.take, List.length_map]; rfl) ?_
        refine r_pure [] rfl rfl rfl (by conv => lhs; whnf) (by simp only [hget, Form.row_len, Form.take, List.length_map, ev_tmp, ev_const, ev_func, upd_at, slots_cons, slots_nil, objs_cons, objs_nil, Nat.reduceLT, Nat.reduceEqDiff, Nat.reduceAdd, reduceIte, if_true, if_false, ofVal, ofS, noOb, reduceCtorEq, List.take_succ_cons, List.take_zero, List.drop_succ_cons, List.drop_zero, List.take_nil, List.drop_nil, List.nil_append, List.cons_append, List.append_nil, List.length_cons, List.length_nil, List.head?_cons, List.map_cons, List.map_nil, Nat.reduceAdd, Nat.zero_add, List.length_map, List.toList_toArray]; rfl) (by simp only [hget, Form.row_len, Form.take, List.length_map, fzU, ev_tmp, ev_const, ev_func, upd_at, slots_cons, slots_nil, objs_cons, objs_nil, Nat.reduceLT, Nat.reduceEqDiff, Nat.reduceAdd, reduceIte, if_true, if_false, ofVal, ofS, noOb, reduceCtorEq]; rfl) (by simp only [app]; rfl) (hkid) (by exact ⟨(by first | exact pass_id rfl | exact pass_id (ids_row _) | exact .inr (.inl ⟨_, rfl, rfl, by simp [fz]⟩) | exact .inr (.inr ⟨_, _, rfl, rfl, rfl, by simp [fz]⟩)), (by first | exact pass_id rfl | exact pass_id (ids_row _) | exact .inr (.inl ⟨_, rfl, rfl, by simp [fz]⟩) | exact .inr (.inr ⟨_, _, rfl, rfl, rfl, by simp [fz]⟩)), trivial⟩) (by simp only [fpOf, Op.operands, Call.operands, V.idsL, V.ids, idsL_t, List.append_nil, List.nil_append, List.cons_append, List.map_toArray, List.append_toArray, hget, Form.row_len, Form.take, List.length_map, ev_tmp, ev_const, ev_func, upd_at, slots_cons, slots_nil, objs_cons, objs_nil, Nat.reduceLT, Nat.reduceEqDiff, Nat.reduceAdd, reduceIte, if_true, if_false, ofVal, ofS, noOb, reduceCtorEq, List.take_succ_cons, List.take_zero, List.drop_succ_cons, List.drop_zero, List.take_nil, List.drop_nil, List.nil_append, List.cons_append, List.append_nil, List.length_cons, List.length_nil, List.head?_cons, List.map_cons, List.map_nil, Nat.reduceAdd, Nat.zero_add, List.length_map]; rfl) ?_
        refine r_un rfl (by conv => lhs; whnf) (by conv => lhs; whnf) (by simp only [fpOf, idOf, Option.getD_some, Option.getD_none, Op.operands, Call.operands, V.idsL, V.ids, idsL_t, List.append_nil, List.nil_append, List.cons_append, List.toList_toArray, List.map_toArray, List.size_toArray, List.append_toArray, ev_tmp, ev_const, ev_func, upd_at, slots_cons, slots_nil, objs_cons, objs_nil, Nat.reduceLT, Nat.reduceEqDiff, Nat.reduceAdd, reduceIte, if_true, if_false, ofVal, ofS, noOb, reduceCtorEq, List.take_succ_cons, List.take_zero, List.drop_succ_cons, List.drop_zero, List.take_nil, List.drop_nil, List.nil_append, List.cons_append, List.append_nil, List.length_cons, List.length_nil, List.head?_cons, List.map_cons, List.map_nil, Nat.reduceAdd, Nat.zero_add, List.length_map, hget, Form.row_len, Form.take, List.length_map]; rfl) ?_
        refine k_nilD (by simp only [List.reverse_cons, List.reverse_nil, List.nil_append, List.cons_append]; kernel_rfl) ?_
        refine k_seq ?_
        refine awp_cond rfl (fun hc => ?_) (fun hc => ?_)
        · exact absurd hc (by simp)
        · refine awp_skip ?_
          refine k_blk ?_
          refine k_seq ?_
          refine awp_region ?_
          refine r_move rfl (by conv => lhs; whnf) rfl ?_
          refine r_bin rfl (by conv => lhs; whnf) (by conv => lhs; whnf) (by simp only [hget, Form.row_len, Form.take, List.length_map, abin, reduceIte, ne_eq, decide_not, Bool.not_true, Bool.not_false]; rfl) rfl ?_
          refine r_assign rfl (by conv => lhs; whnf) rfl ?_
          refine k_nil ?_
          refine k_for (j + 1) hlt (by show l.length - (j + 1) < l.length - j; omega) ?_
          refine weak_to _ _ (fun k hk => absurd rfl (hC k hk)) ?_ trivial
          simp only [HasS, upd_at, slots_cons, reduceIte, Nat.reduceEqDiff, V.ids, List.not_mem_nil, false_imp_iff, implies_true, and_true]
          rw [IntWalk.i64_in _ (by omega)]
          simp [slots]
      · refine awp_exit ?_
        refine k_seq_exit ?_
        refine k_for_exit ?_
        refine k_blk_exit ?_
        refine k_seq ?_
        refine awp_seq ?_
        refine awp_region ?_
        refine r_assign rfl (by conv => lhs; whnf) rfl ?_
        refine k_nil ?_
        refine k_seq ?_
        refine awp_ret ?_
        refine k_fin ?_
        refine ends_pure [] (by simp only [Try.results45, resOf, List.length_map, ev_tmp, ev_const, ev_func, upd_at, slots_cons, slots_nil, objs_cons, objs_nil, Nat.reduceLT, Nat.reduceEqDiff, Nat.reduceAdd, reduceIte, if_true, if_false, ofVal, ofS, noOb, reduceCtorEq]; rfl) (by skip; exact ⟨give_id _, trivial⟩) (by simp [V.idsL, V.ids])
theorem eqForm_ok : ∀ (f : Form), T.wtL f.row ≤ 2 ^ 30 → AC Try.prog 31 [.ag (f.row.map .t), .ag (f.row.map .t)] noOb (vb true) noOb
  | (Form.mk kind name n scopes kids), hl => by
    rw [Form.row_mk] at hl ⊢
    simp only [T.wtL, T.wt, S.wt, T.wtR_ints, List.length_map] at hl
    refine AC_intro (rs := [_]) Try.func31 rfl (by kernel_rfl) (by simp [Try.ntmps31]) (by simp [noOb]) ?_
    intro C hC
    rw [Try.ntmps31]
    refine awp_seq ?_
    refine awp_region ?_
    refine r_box rfl (by conv => lhs; whnf) rfl (by conv => lhs; whnf) rfl rfl ?_
    refine r_box rfl (by conv => lhs; whnf) rfl (by conv => lhs; whnf) rfl rfl ?_
    refine r_assign rfl (by conv => lhs; whnf) rfl ?_
    refine k_nil ?_
    refine k_seq ?_
    refine awp_seq ?_
    refine awp_seq ?_
    refine awp_region ?_
    refine r_fieldAddr rfl yF26_0 (by conv => lhs; whnf) (by conv => lhs; whnf) rfl ?_
    refine r_load1 rfl yA3 (by conv => lhs; whnf) (by conv => lhs; whnf) (by (try simp only [List.take_succ_cons, List.take_zero, List.drop_succ_cons, List.drop_zero, List.take_nil, List.drop_nil, List.nil_append, List.cons_append, List.append_nil, List.length_cons, List.length_nil, List.head?_cons, List.map_cons, List.map_nil, Nat.reduceAdd, Nat.zero_add, List.length_map]); rfl) rfl ?_
    refine r_fieldAddr rfl yF26_0 (by conv => lhs; whnf) (by conv => lhs; whnf) rfl ?_
    refine r_load1 rfl yA3 (by conv => lhs; whnf) (by conv => lhs; whnf) (by (try simp only [List.take_succ_cons, List.take_zero, List.drop_succ_cons, List.drop_zero, List.take_nil, List.drop_nil, List.nil_append, List.cons_append, List.append_nil, List.length_cons, List.length_nil, List.head?_cons, List.map_cons, List.map_nil, Nat.reduceAdd, Nat.zero_add, List.length_map]); rfl) rfl ?_
    refine r_bin rfl (by conv => lhs; whnf) (by conv => lhs; whnf) (by simp only [abin, reduceIte, ne_eq, decide_not, Bool.not_true, Bool.not_false]; rfl) rfl ?_
    refine k_nil ?_
    refine k_seq ?_
    refine awp_cond rfl (fun hc1 => ?_) (fun hc1 => ?_)
    · exact absurd hc1 (by simp)
    refine awp_skip ?_
    refine k_seq ?_
    refine awp_seq ?_
    refine awp_seq ?_
    refine awp_region ?_
    refine r_fieldAddr rfl yF26_1 (by conv => lhs; whnf) (by conv => lhs; whnf) rfl ?_
    refine r_load1 rfl yA9 (by conv => lhs; whnf) (by conv => lhs; whnf) (by (try simp only [List.take_succ_cons, List.take_zero, List.drop_succ_cons, List.drop_zero, List.take_nil, List.drop_nil, List.nil_append, List.cons_append, List.append_nil, List.length_cons, List.length_nil, List.head?_cons, List.map_cons, List.map_nil, Nat.reduceAdd, Nat.zero_add, List.length_map]); rfl) rfl ?_
    refine r_fieldAddr rfl yF26_1 (by conv => lhs; whnf) (by conv => lhs; whnf) rfl ?_
    refine r_load1 rfl yA9 (by conv => lhs; whnf) (by conv => lhs; whnf) (by (try simp only [List.take_succ_cons, List.take_zero, List.drop_succ_cons, List.drop_zero, List.take_nil, List.drop_nil, List.nil_append, List.cons_append, List.append_nil, List.length_cons, List.length_nil, List.head?_cons, List.map_cons, List.map_nil, Nat.reduceAdd, Nat.zero_add, List.length_map]); rfl) rfl ?_
    refine r_bin rfl (by conv => lhs; whnf) (by conv => lhs; whnf) (by simp only [abin, reduceIte, ne_eq, decide_not, Bool.not_true, Bool.not_false]; rfl) rfl ?_
    refine k_nil ?_
    refine k_seq ?_
    refine awp_cond rfl (fun hc2 => ?_) (fun hc2 => ?_)
    · exact absurd hc2 (by simp)
    refine awp_skip ?_
    refine k_seq ?_
    refine awp_seq ?_
    refine awp_seq ?_
    refine awp_region ?_
    refine r_fieldAddr rfl yF26_2 (by conv => lhs; whnf) (by conv => lhs; whnf) rfl ?_
    refine r_load1 rfl yA3 (by conv => lhs; whnf) (by conv => lhs; whnf) (by (try simp only [List.take_succ_cons, List.take_zero, List.drop_succ_cons, List.drop_zero, List.take_nil, List.drop_nil, List.nil_append, List.cons_append, List.append_nil, List.length_cons, List.length_nil, List.head?_cons, List.map_cons, List.map_nil, Nat.reduceAdd, Nat.zero_add, List.length_map]); rfl) rfl ?_
    refine r_fieldAddr rfl yF26_2 (by conv => lhs; whnf) (by conv => lhs; whnf) rfl ?_
    refine r_load1 rfl yA3 (by conv => lhs; whnf) (by conv => lhs; whnf) (by (try simp only [List.take_succ_cons, List.take_zero, List.drop_succ_cons, List.drop_zero, List.take_nil, List.drop_nil, List.nil_append, List.cons_append, List.append_nil, List.length_cons, List.length_nil, List.head?_cons, List.map_cons, List.map_nil, Nat.reduceAdd, Nat.zero_add, List.length_map]); rfl) rfl ?_
    refine r_bin rfl (by conv => lhs; whnf) (by conv => lhs; whnf) (by simp only [abin, reduceIte, ne_eq, decide_not, Bool.not_true, Bool.not_false]; rfl) rfl ?_
    refine k_nil ?_
    refine k_seq ?_
    refine awp_cond rfl (fun hc3 => ?_) (fun hc3 => ?_)
    · exact absurd hc3 (by simp)
    refine awp_skip ?_
    refine k_seq ?_
    refine awp_seq ?_
    refine awp_seq ?_
    refine awp_region ?_
    refine r_fieldAddr rfl yF26_3 (by conv => lhs; whnf) (by conv => lhs; whnf) rfl ?_
    refine r_load1 rfl yA23 (by conv => lhs; whnf) (by conv => lhs; whnf) (by (try simp only [List.take_succ_cons, List.take_zero, List.drop_succ_cons, List.drop_zero, List.take_nil, List.drop_nil, List.nil_append, List.cons_append, List.append_nil, List.length_cons, List.length_nil, List.head?_cons, List.map_cons, List.map_nil, Nat.reduceAdd, Nat.zero_add, List.length_map]); rfl) rfl ?_
    refine r_fieldAddr rfl yF26_3 (by conv => lhs; whnf) (by conv => lhs; whnf) rfl ?_
    refine r_load1 rfl yA23 (by conv => lhs; whnf) (by conv => lhs; whnf) (by (try simp only [List.take_succ_cons, List.take_zero, List.drop_succ_cons, List.drop_zero, List.take_nil, List.drop_nil, List.nil_append, List.cons_append, List.append_nil, List.length_cons, List.length_nil, List.head?_cons, List.map_cons, List.map_nil, Nat.reduceAdd, Nat.zero_add, List.length_map]); rfl) rfl ?_
    have hk4 := eqIntS_ok scopes (by omega)
    refine r_pure [] rfl rfl rfl (by conv => lhs; whnf) (by simp only [ev_tmp, ev_const, ev_func, upd_at, slots_cons, slots_nil, objs_cons, objs_nil, Nat.reduceLT, Nat.reduceEqDiff, Nat.reduceAdd, reduceIte, if_true, if_false, ofVal, ofS, noOb, reduceCtorEq, List.take_succ_cons, List.take_zero, List.drop_succ_cons, List.drop_zero, List.take_nil, List.drop_nil, List.nil_append, List.cons_append, List.append_nil, List.length_cons, List.length_nil, List.head?_cons, List.map_cons, List.map_nil, Nat.reduceAdd, Nat.zero_add, List.length_map, List.toList_toArray]; rfl) (by simp only [fzU, ev_tmp, ev_const, ev_func, upd_at, slots_cons, slots_nil, objs_cons, objs_nil, Nat.reduceLT, Nat.reduceEqDiff, Nat.reduceAdd, reduceIte, if_true, if_false, ofVal, ofS, noOb, reduceCtorEq]; rfl) (by simp only [app]; rfl) (hk4) (by exact ⟨(by first | exact pass_id rfl | exact pass_id (ids_row _) | exact .inr (.inl ⟨_, rfl, rfl, by simp [fz]⟩) | exact .inr (.inr ⟨_, _, rfl, rfl, rfl, by simp [fz]⟩)), (by first | exact pass_id rfl | exact pass_id (ids_row _) | exact .inr (.inl ⟨_, rfl, rfl, by simp [fz]⟩) | exact .inr (.inr ⟨_, _, rfl, rfl, rfl, by simp [fz]⟩)), trivial⟩) rfl ?_
    refine r_un rfl (by conv => lhs; whnf) (by conv => lhs; whnf) rfl ?_
    refine k_nil ?_
    refine k_seq ?_
    refine awp_cond rfl (fun hc4 => ?_) (fun hc4 => ?_)
    · exact absurd hc4 (by simp)
    refine awp_skip ?_
    refine k_seq ?_
    refine awp_seq ?_
    refine awp_seq ?_
    refine awp_region ?_
    refine r_fieldAddr rfl yF26_4 (by conv => lhs; whnf) (by conv => lhs; whnf) rfl ?_
    refine r_load1 rfl yA24 (by conv => lhs; whnf) (by conv => lhs; whnf) (by (try simp only [List.take_succ_cons, List.take_zero, List.drop_succ_cons, List.drop_zero, List.take_nil, List.drop_nil, List.nil_append, List.cons_append, List.append_nil, List.length_cons, List.length_nil, List.head?_cons, List.map_cons, List.map_nil, Nat.reduceAdd, Nat.zero_add, List.length_map]); rfl) rfl ?_
    refine r_fieldAddr rfl yF26_4 (by conv => lhs; whnf) (by conv => lhs; whnf) rfl ?_
    refine r_load1 rfl yA24 (by conv => lhs; whnf) (by conv => lhs; whnf) (by (try simp only [List.take_succ_cons, List.take_zero, List.drop_succ_cons, List.drop_zero, List.take_nil, List.drop_nil, List.nil_append, List.cons_append, List.append_nil, List.length_cons, List.length_nil, List.head?_cons, List.map_cons, List.map_nil, Nat.reduceAdd, Nat.zero_add, List.length_map]); rfl) rfl ?_
    have hk5 := eqFormS_of kids (fun k hk => eqForm_ok k) (by simp only [T.wt, List.length_map]; omega)
    refine r_pure [] rfl rfl rfl (by conv => lhs; whnf) (by simp only [ev_tmp, ev_const, ev_func, upd_at, slots_cons, slots_nil, objs_cons, objs_nil, Nat.reduceLT, Nat.reduceEqDiff, Nat.reduceAdd, reduceIte, if_true, if_false, ofVal, ofS, noOb, reduceCtorEq, List.take_succ_cons, List.take_zero, List.drop_succ_cons, List.drop_zero, List.take_nil, List.drop_nil, List.nil_append, List.cons_append, List.append_nil, List.length_cons, List.length_nil, List.head?_cons, List.map_cons, List.map_nil, Nat.reduceAdd, Nat.zero_add, List.length_map, List.toList_toArray]; rfl) (by simp only [fzU, ev_tmp, ev_const, ev_func, upd_at, slots_cons, slots_nil, objs_cons, objs_nil, Nat.reduceLT, Nat.reduceEqDiff, Nat.reduceAdd, reduceIte, if_true, if_false, ofVal, ofS, noOb, reduceCtorEq]; rfl) (by simp only [app]; rfl) (hk5) (by exact ⟨(by first | exact pass_id rfl | exact pass_id (ids_row _) | exact .inr (.inl ⟨_, rfl, rfl, by simp [fz]⟩) | exact .inr (.inr ⟨_, _, rfl, rfl, rfl, by simp [fz]⟩)), (by first | exact pass_id rfl | exact pass_id (ids_row _) | exact .inr (.inl ⟨_, rfl, rfl, by simp [fz]⟩) | exact .inr (.inr ⟨_, _, rfl, rfl, rfl, by simp [fz]⟩)), trivial⟩) rfl ?_
    refine r_un rfl (by conv => lhs; whnf) (by conv => lhs; whnf) rfl ?_
    refine k_nil ?_
    refine k_seq ?_
    refine awp_cond rfl (fun hc5 => ?_) (fun hc5 => ?_)
    · exact absurd hc5 (by simp)
    refine awp_skip ?_
    refine k_seq ?_
    refine awp_seq ?_
    refine awp_region ?_
    refine r_assign rfl (by conv => lhs; whnf) rfl ?_
    refine k_nil ?_
    refine k_seq ?_
    refine awp_ret ?_
    refine k_fin ?_
    refine ends_pure [] (by simp only [Try.results31, resOf, List.length_map, ev_tmp, ev_const, ev_func, upd_at, slots_cons, slots_nil, objs_cons, objs_nil, Nat.reduceLT, Nat.reduceEqDiff, Nat.reduceAdd, reduceIte, if_true, if_false, ofVal, ofS, noOb, reduceCtorEq]; rfl) (by skip; exact ⟨give_id _, trivial⟩) (by simp [V.idsL, V.ids])
termination_by f => SizeOf.sizeOf f
decreasing_by (have := List.sizeOf_lt_of_mem hk; simp only [Form.mk.sizeOf_spec]; omega)
theorem read_Core {H : Type} {enc : TypeId × Value → H} {w : World} {base : Nat} {spare : Nat → Bool} {held : Bool} : ∀ (fuel : Nat) (cs : List Value) (x : DataW H × List MemPlace), DataW.trod enc Try.prog w base spare held fuel 42 cs = some x → ∃ f : Core, T.Cells (G0 w) f.row cs ∧ T.okL f.row ∧ cs.length = 11 := by
  intro fuel
  induction fuel using Nat.strongRecOn with | _ fuel ih => ?_
  intro cs x h
  have hl := trod_len yF42_0 yS42 h
  obtain ⟨n0, y0, hn0, h0⟩ := trod_field yF42_0 yS3 h
  obtain ⟨n1, y1, hn1, h1⟩ := trod_field yF42_1 yS3 h
  obtain ⟨n2, y2, hn2, h2⟩ := trod_field yF42_2 yS9 h
  obtain ⟨n3, y3, hn3, h3⟩ := trod_field yF42_3 yS3 h
  obtain ⟨n4, y4, hn4, h4⟩ := trod_field yF42_4 yS23 h
  obtain ⟨n5, y5, hn5, h5⟩ := trod_field yF42_5 yS39 h
  obtain ⟨n6, y6, hn6, h6⟩ := trod_field yF42_6 yS40 h
  match cs, hl with
  | [c0, c1, c2, c3, c4, c5, c6, c7, c8, c9, c10], _ =>
    simp only [List.take_succ_cons, List.take_zero, List.drop_succ_cons, List.drop_zero, List.take_nil, List.drop_nil] at h0 h1 h2 h3 h4 h5 h6
    obtain ⟨kind, e0, o0, _⟩ := trod_i yU3 h0
    obtain ⟨id, e1, o1, _⟩ := trod_i yU3 h1
    obtain ⟨name, e2, o2, _⟩ := trod_s yU9 h2
    obtain ⟨n, e3, o3, _⟩ := trod_i yU3 h3
    obtain ⟨ids, z4, q4, e4, o4⟩ := trod_is yU23 yU3 yS3 h4
    simp only [List.cons.injEq, and_true] at q4
    subst q4
    obtain ⟨data, e5, o5, _⟩ := read_Form _ _ _ h5
    obtain ⟨data_kind, data_name, data_n, data_scopes, data_kids⟩ := data
    rw [Form.row_mk] at e5 o5
    obtain ⟨kids, z6, q6, e6, o6⟩ := trod_l Core.row (sz := 10) yU40 yS42 (fun n cs' y hn hh => by
      obtain ⟨f, a1, a2, _⟩ := ih n (by omega) cs' y hh
      exact ⟨f, a1, Core.row_len f, a2⟩) h6
    simp only [List.cons.injEq, and_true] at q6
    subst q6
    exact ⟨.mk kind id name n ids (Form.mk data_kind data_name data_n data_scopes data_kids) kids, by rw [Core.row_mk]; exact cells_app e0 rfl (cells_app e1 rfl (cells_app e2 rfl (cells_app e3 rfl (cells_cons e4 (cells_app e5 rfl (cells_cons e6 (cells_nil))))))), by rw [Core.row_mk]; exact okL_cons o0 (okL_cons o1 (okL_cons o2 (okL_cons o3 (okL_cons o4 (okL_app o5 (okL_cons o6 (okL_nil))))))), rfl⟩
theorem szCoreS_of (l : List Core) (ih : ∀ f ∈ l, ∀ left : Int, 0 ≤ left → left ≤ 2 ^ 60 → T.okL f.row → AC Try.prog 15 [.ag (f.row.map .t), vi left] noOb (vi (szr (T.wtL f.row) left)) noOb) (left : Int) (h0 : 0 ≤ left) (h1 : left ≤ 2 ^ 60) (hok : T.ok (.sl (l.map Core.row))) : AC Try.prog 26 [.t (.sl (l.map Core.row)), vi left] noOb (vi (szr (T.wt (.sl (l.map Core.row))) left)) noOb := by
  simp only [T.ok, T.wt, List.length_map] at hok ⊢
  have hlen := hok.1
  have hw := IntWalk.i64_in (left - (l.length : Int)) (by omega)
  refine AC_intro (rs := [_]) Try.func26 rfl (by kernel_rfl) (by simp [Try.ntmps26]) (by simp [noOb]) ?_
  intro C hC
  rw [Try.ntmps26]
  refine awp_seq ?_
  refine awp_region ?_
  refine r_assign rfl (by conv => lhs; whnf) rfl ?_
  refine k_nil ?_
  refine k_seq ?_
  refine awp_seq ?_
  refine awp_region ?_
  refine r_move rfl (by conv => lhs; whnf) rfl ?_
  refine r_move rfl (by conv => lhs; whnf) rfl ?_
  refine r_len rfl yU40 (by conv => lhs; whnf) (by conv => lhs; whnf) rfl ?_
  refine r_bin rfl (by conv => lhs; whnf) (by conv => lhs; whnf) (by simp only [List.length_map, hw, abin, reduceIte, ne_eq, decide_not, Bool.not_true, Bool.not_false]; rfl) rfl ?_
  refine r_assign rfl (by conv => lhs; whnf) rfl ?_
  refine k_nil ?_
  refine k_seq ?_
  refine awp_seq ?_
  refine awp_seq ?_
  refine awp_region ?_
  refine r_move rfl (by conv => lhs; whnf) rfl ?_
  refine r_bin rfl (by conv => lhs; whnf) (by conv => lhs; whnf) (by simp only [List.length_map, hw, abin, reduceIte, ne_eq, decide_not, Bool.not_true, Bool.not_false]; rfl) rfl ?_
  refine k_nil ?_
  refine k_seq ?_
  refine awp_cond rfl (fun hc => ?_) (fun hc => ?_)
  · have hr : szr (l.length + T.wtR (l.map Core.row)) left = -1 := szr_neg (by have := of_decide_eq_true hc; omega)
    refine awp_seq ?_
    refine awp_region ?_
    refine r_assign rfl (by conv => lhs; whnf) rfl ?_
    refine k_nil ?_
    refine k_seq ?_
    refine awp_ret ?_
    refine k_seq_ret ?_
    refine k_fin ?_
    refine ends_pure [] (by simp only [Try.results26, resOf, List.length_map, hw, ev_tmp, ev_const, ev_func, upd_at, slots_cons, slots_nil, objs_cons, objs_nil, Nat.reduceLT, Nat.reduceEqDiff, Nat.reduceAdd, reduceIte, if_true, if_false, ofVal, ofS, noOb, reduceCtorEq]; rfl) (by rw [hr]; exact ⟨give_id _, trivial⟩) (by simp [V.idsL, V.ids])
  · have hc0 := of_decide_eq_false hc
    clear hc
    refine awp_skip ?_
    refine k_seq ?_
    refine awp_seq ?_
    refine awp_seq ?_
    refine awp_region ?_
    refine r_assign rfl (by conv => lhs; whnf) rfl ?_
    refine k_nil ?_
    refine k_seq ?_
    refine awp_block ?_
    refine awp_for (fun j : Nat => l.length - j) (fun j => [(0, .t (.sl (l.map Core.row))), (1, vi (left - l.length - T.wtR ((l.take j).map Core.row))), (5, vi j)]) (fun _ => []) (fun j => j ≤ l.length ∧ (T.wtR ((l.take j).map Core.row) : Int) ≤ left - l.length) 0 ⟨Nat.zero_le _, by simp [T.wtR]; omega⟩ ?_ ?_
    · refine weak_to _ _ (fun k hk => absurd rfl (hC k hk)) ?_ trivial
      simp only [HasS, upd_at, reduceIte, Nat.reduceEqDiff, V.ids, List.not_mem_nil, false_imp_iff, implies_true, and_true, List.take_zero, List.map_nil, T.wtR]
      simp [slots]
    · rintro j ⟨hj, hwj⟩
      refine awp_seq ?_
      refine awp_seq ?_
      refine awp_region ?_
      refine r_move rfl (by conv => lhs; whnf) rfl ?_
      refine r_move rfl (by conv => lhs; whnf) rfl ?_
      refine r_len rfl yU40 (by conv => lhs; whnf) (by conv => lhs; whnf) rfl ?_
      refine r_bin rfl (by conv => lhs; whnf) (by conv => lhs; whnf) (by simp only [List.length_map, abin, reduceIte, ne_eq, decide_not, Bool.not_true, Bool.not_false]; rfl) rfl ?_
      refine k_nil ?_
      refine k_seq ?_
      refine awp_cond rfl (fun hc => ?_) (fun hc => ?_)
      · have hlt : j < l.length := by have := of_decide_eq_true hc; omega
        have hget := map_get Core.row l j hlt
        have hsucc := T.wtR_succ Core.row l j hlt
        have hle := T.wtR_le Core.row l (j + 1)
        have hkid := ih l[j] (List.getElem_mem hlt) (left - l.length - T.wtR ((l.take j).map Core.row)) (by omega) (by omega) (T.okR_mem hok.2 (List.mem_map_of_mem (List.getElem_mem hlt)))
        clear hc
        refine awp_skip ?_
        refine k_seq ?_
        refine awp_seq ?_
        refine awp_block ?_
        refine awp_seq ?_
        refine awp_region ?_
        refine r_move rfl (by conv => lhs; whnf) rfl ?_
        refine r_move rfl (by conv => lhs; whnf) rfl ?_
        refine r_indexAddr rfl yE40 (by conv => lhs; whnf) (by conv => lhs; whnf) (by omega) (by simp only [hget, Core.row_len, Core.take, List.length_map, indexP, ev_tmp, ev_const, ev_func, upd_at, slots_cons, slots_nil, objs_cons, objs_nil, Nat.reduceLT, Nat.reduceEqDiff, Nat.reduceAdd, reduceIte, if_true, if_false, ofVal, ofS, noOb, reduceCtorEq]; rfl) rfl ?_
        refine r_loadN rfl yA42 yS42 (by conv => lhs; whnf) (by conv => lhs; whnf) (by simp only [hget, Core.row_len, Core.take, List.length_map, List.take_succ_cons, List.take_zero, List.drop_succ_cons, List.drop_zero, List.take_nil, List.drop_nil, List.nil_append, List.cons_append, List.append_nil, List.length_cons, List.length_nil, List.head?_cons, List.map_cons, List.map_nil, Nat.reduceAdd, Nat.zero_add, List.length_map]; omega) (by (try simp only [hget, Core.row_len, Core.take, List.length_map, List.take_succ_cons, List.take_zero, List.drop_succ_cons, List.drop_zero, List.take_nil, List.drop_nil, List.nil_append, List.cons_append, List.append_nil, List.length_cons, List.length_nil, List.head?_cons, List.map_cons, List.map_nil, Nat.reduceAdd, Nat.zero_add, List.length_map]); rfl) rfl ?_
        refine r_move rfl (by conv => lhs; whnf) rfl ?_
        refine r_pure [] rfl rfl rfl (by conv => lhs; whnf) (by simp only [hget, Core.row_len, Core.take, List.length_map, ev_tmp, ev_const, ev_func, upd_at, slots_cons, slots_nil, objs_cons, objs_nil, Nat.reduceLT, Nat.reduceEqDiff, Nat.reduceAdd, reduceIte, if_true, if_false, ofVal, ofS, noOb, reduceCtorEq, List.take_succ_cons, List.take_zero, List.drop_succ_cons, List.drop_zero, List.take_nil, List.drop_nil, List.nil_append, List.cons_append, List.append_nil, List.length_cons, List.length_nil, List.head?_cons, List.map_cons, List.map_nil, Nat.reduceAdd, Nat.zero_add, List.length_map, List.toList_toArray]; rfl) (by simp only [hget, Core.row_len, Core.take, List.length_map, fzU, ev_tmp, ev_const, ev_func, upd_at, slots_cons, slots_nil, objs_cons, objs_nil, Nat.reduceLT, Nat.reduceEqDiff, Nat.reduceAdd, reduceIte, if_true, if_false, ofVal, ofS, noOb, reduceCtorEq]; rfl) (by simp only [app]; rfl) (hkid) (by exact ⟨(by first | exact pass_id rfl | exact pass_id (ids_row _) | exact .inr (.inl ⟨_, rfl, rfl, by simp [fz]⟩) | exact .inr (.inr ⟨_, _, rfl, rfl, rfl, by simp [fz]⟩)), (by first | exact pass_id rfl | exact pass_id (ids_row _) | exact .inr (.inl ⟨_, rfl, rfl, by simp [fz]⟩) | exact .inr (.inr ⟨_, _, rfl, rfl, rfl, by simp [fz]⟩)), trivial⟩) rfl ?_
        refine r_assign rfl (by conv => lhs; whnf) rfl ?_
        refine k_nil ?_
        refine k_seq ?_
        refine awp_seq ?_
        refine awp_region ?_
        refine r_move rfl (by conv => lhs; whnf) rfl ?_
        refine r_bin rfl (by conv => lhs; whnf) (by conv => lhs; whnf) (by simp only [hget, Core.row_len, Core.take, List.length_map, abin, reduceIte, ne_eq, decide_not, Bool.not_true, Bool.not_false]; rfl) rfl ?_
        refine k_nil ?_
        refine k_seq ?_
        refine awp_cond rfl (fun hc => ?_) (fun hc => ?_)
        · have hc1 := of_decide_eq_true hc
          have hno : ¬ ((T.wtL l[j].row : Int) ≤ left - l.length - T.wtR ((l.take j).map Core.row)) := by
            intro hh; rw [szr_pos hh] at hc1; omega
          have hr : szr (l.length + T.wtR (l.map Core.row)) left = -1 := szr_neg (by push_cast; omega)
          refine awp_seq ?_
          refine awp_region ?_
          refine r_assign rfl (by conv => lhs; whnf) rfl ?_
          refine k_nil ?_
          refine k_seq ?_
          refine awp_ret ?_
          refine k_blk_ret ?_
          refine k_seq_ret ?_
          refine k_for_ret ?_
          refine k_blk_ret ?_
          refine k_seq_ret ?_
          refine k_fin ?_
          refine ends_pure [] (by simp only [Try.results26, resOf, hget, Core.row_len, Core.take, List.length_map, ev_tmp, ev_const, ev_func, upd_at, slots_cons, slots_nil, objs_cons, objs_nil, Nat.reduceLT, Nat.reduceEqDiff, Nat.reduceAdd, reduceIte, if_true, if_false, ofVal, ofS, noOb, reduceCtorEq]; rfl) (by rw [hr]; exact ⟨give_id _, trivial⟩) (by simp [V.idsL, V.ids])
        · have hc1 := of_decide_eq_false hc
          have hyes : (T.wtL l[j].row : Int) ≤ left - l.length - T.wtR ((l.take j).map Core.row) := by
            rcases Int.lt_or_le (left - l.length - T.wtR ((l.take j).map Core.row)) (T.wtL l[j].row) with hh | hh
            · rw [szr_neg hh] at hc1; omega
            · exact hh
          rw [szr_pos hyes]
          refine awp_skip ?_
          refine k_blk ?_
          refine k_seq ?_
          refine awp_region ?_
          refine r_move rfl (by conv => lhs; whnf) rfl ?_
          refine r_bin rfl (by conv => lhs; whnf) (by conv => lhs; whnf) (by simp only [hget, Core.row_len, Core.take, List.length_map, abin, reduceIte, ne_eq, decide_not, Bool.not_true, Bool.not_false]; rfl) rfl ?_
          refine r_assign rfl (by conv => lhs; whnf) rfl ?_
          refine k_nil ?_
          refine k_for (j + 1) ⟨by omega, by rw [hsucc]; push_cast; omega⟩ (by show l.length - (j + 1) < l.length - j; omega) ?_
          refine weak_to _ _ (fun k hk => absurd rfl (hC k hk)) ?_ trivial
          simp only [HasS, upd_at, slots_cons, reduceIte, Nat.reduceEqDiff, V.ids, List.not_mem_nil, false_imp_iff, implies_true, and_true]
          rw [hsucc, IntWalk.i64_in _ (by omega)]
          exact ⟨trivial, by push_cast; rw [Int.sub_sub], by push_cast; rfl⟩
      · have hje : j = l.length := by have := of_decide_eq_false hc; omega
        subst hje
        rw [List.take_length] at hwj ⊢
        have hr : szr (l.length + T.wtR (l.map Core.row)) left = left - l.length - T.wtR (l.map Core.row) := by rw [szr_pos (by push_cast; omega)]; push_cast; omega
        refine awp_exit ?_
        refine k_seq_exit ?_
        refine k_for_exit ?_
        refine k_blk_exit ?_
        refine k_seq ?_
        refine awp_seq ?_
        refine awp_region ?_
        refine r_move rfl (by conv => lhs; whnf) rfl ?_
        refine r_assign rfl (by conv => lhs; whnf) rfl ?_
        refine k_nil ?_
        refine k_seq ?_
        refine awp_ret ?_
        refine k_fin ?_
        refine ends_pure [] (by simp only [Try.results26, resOf, List.length_map, ev_tmp, ev_const, ev_func, upd_at, slots_cons, slots_nil, objs_cons, objs_nil, Nat.reduceLT, Nat.reduceEqDiff, Nat.reduceAdd, reduceIte, if_true, if_false, ofVal, ofS, noOb, reduceCtorEq]; rfl) (by rw [hr]; exact ⟨give_id _, trivial⟩) (by simp [V.idsL, V.ids])
theorem szCore_ok : ∀ (f : Core) (left : Int), 0 ≤ left → left ≤ 2 ^ 60 → T.okL f.row → AC Try.prog 15 [.ag (f.row.map .t), vi left] noOb (vi (szr (T.wtL f.row) left)) noOb
  | (Core.mk kind id name n ids (Form.mk data_kind data_name data_n data_scopes data_kids) kids), left, h0, h1, hok => by
    rw [Core.row_mk] at hok ⊢
    obtain ⟨wt, hwt⟩ : ∃ wt, wt = T.wtL [ti kind, ti id, tstr name, ti n, ints64 ids, ti data_kind, tstr data_name, ti data_n, ints64 data_scopes, .sl (data_kids.map Form.row), .sl (kids.map Core.row)] := ⟨_, rfl⟩
    rw [← hwt]
    simp only [T.wtL, T.wt, S.wt, T.wtR_ints, List.length_map] at hwt
    simp only [T.okL, T.ok, S.ok, List.length_map, and_true, true_and] at hok
    refine AC_intro (rs := [_]) Try.func15 rfl (by kernel_rfl) (by simp [Try.ntmps15]) (by simp [noOb]) ?_
    intro C hC
    rw [Try.ntmps15]
    have hw1 := IntWalk.i64_in (left - (name.size : Int)) (by omega)
    refine awp_seq ?_
    refine awp_region ?_
    refine r_box rfl (by conv => lhs; whnf) rfl (by conv => lhs; whnf) rfl rfl ?_
    refine r_assign rfl (by conv => lhs; whnf) rfl ?_
    refine k_nil ?_
    refine k_seq ?_
    refine awp_seq ?_
    refine awp_region ?_
    refine r_move rfl (by conv => lhs; whnf) rfl ?_
    refine r_fieldAddr rfl yF42_2 (by conv => lhs; whnf) (by conv => lhs; whnf) rfl ?_
    refine r_load1 rfl yA9 (by conv => lhs; whnf) (by conv => lhs; whnf) (by (try simp only [List.length_map, hw1, List.take_succ_cons, List.take_zero, List.drop_succ_cons, List.drop_zero, List.take_nil, List.drop_nil, List.nil_append, List.cons_append, List.append_nil, List.length_cons, List.length_nil, List.head?_cons, List.map_cons, List.map_nil, Nat.reduceAdd, Nat.zero_add, List.length_map]); rfl) rfl ?_
    refine r_lenS rfl yU9 (by conv => lhs; whnf) rfl ?_
    refine r_bin rfl (by conv => lhs; whnf) (by conv => lhs; whnf) (by simp only [List.length_map, hw1, abin, reduceIte, ne_eq, decide_not, Bool.not_true, Bool.not_false]; rfl) rfl ?_
    refine r_assign rfl (by conv => lhs; whnf) rfl ?_
    refine k_nil ?_
    refine k_seq ?_
    refine awp_seq ?_
    refine awp_seq ?_
    refine awp_region ?_
    refine r_move rfl (by conv => lhs; whnf) rfl ?_
    refine r_bin rfl (by conv => lhs; whnf) (by conv => lhs; whnf) (by simp only [List.length_map, hw1, abin, reduceIte, ne_eq, decide_not, Bool.not_true, Bool.not_false]; rfl) rfl ?_
    refine k_nil ?_
    refine k_seq ?_
    refine awp_cond rfl (fun hc1 => ?_) (fun hc1 => ?_)
    · have hr : szr wt left = -1 := szr_neg (by have := of_decide_eq_true hc1; omega)
      refine awp_seq ?_
      refine awp_region ?_
      refine r_assign rfl (by conv => lhs; whnf) rfl ?_
      refine k_nil ?_
      refine k_seq ?_
      refine awp_ret ?_
      refine k_seq_ret ?_
      refine k_fin ?_
      refine ends_pure [] (by simp only [Try.results15, resOf, List.length_map, hw1, ev_tmp, ev_const, ev_func, upd_at, slots_cons, slots_nil, objs_cons, objs_nil, Nat.reduceLT, Nat.reduceEqDiff, Nat.reduceAdd, reduceIte, if_true, if_false, ofVal, ofS, noOb, reduceCtorEq]; rfl) (by rw [hr]; exact ⟨give_id _, trivial⟩) (by simp [V.idsL, V.ids])
    have hc1' := of_decide_eq_false hc1
    refine awp_skip ?_
    refine k_seq ?_
    refine awp_seq ?_
    refine awp_region ?_
    refine r_fieldAddr rfl yF42_4 (by conv => lhs; whnf) (by conv => lhs; whnf) rfl ?_
    refine r_load1 rfl yA23 (by conv => lhs; whnf) (by conv => lhs; whnf) (by (try simp only [List.length_map, hw1, List.take_succ_cons, List.take_zero, List.drop_succ_cons, List.drop_zero, List.take_nil, List.drop_nil, List.nil_append, List.cons_append, List.append_nil, List.length_cons, List.length_nil, List.head?_cons, List.map_cons, List.map_nil, Nat.reduceAdd, Nat.zero_add, List.length_map]); rfl) rfl ?_
    refine r_move rfl (by conv => lhs; whnf) rfl ?_
    have hk2 := szIntS_ok ids (left - (name.size : Nat)) (by omega) (by omega) (by omega)
    refine r_pure [] rfl rfl rfl (by conv => lhs; whnf) (by simp only [List.length_map, hw1, ev_tmp, ev_const, ev_func, upd_at, slots_cons, slots_nil, objs_cons, objs_nil, Nat.reduceLT, Nat.reduceEqDiff, Nat.reduceAdd, reduceIte, if_true, if_false, ofVal, ofS, noOb, reduceCtorEq, List.take_succ_cons, List.take_zero, List.drop_succ_cons, List.drop_zero, List.take_nil, List.drop_nil, List.nil_append, List.cons_append, List.append_nil, List.length_cons, List.length_nil, List.head?_cons, List.map_cons, List.map_nil, Nat.reduceAdd, Nat.zero_add, List.length_map, List.toList_toArray]; rfl) (by simp only [List.length_map, hw1, fzU, ev_tmp, ev_const, ev_func, upd_at, slots_cons, slots_nil, objs_cons, objs_nil, Nat.reduceLT, Nat.reduceEqDiff, Nat.reduceAdd, reduceIte, if_true, if_false, ofVal, ofS, noOb, reduceCtorEq]; rfl) (by simp only [app]; rfl) (hk2) (by exact ⟨(by first | exact pass_id rfl | exact pass_id (ids_row _) | exact .inr (.inl ⟨_, rfl, rfl, by simp [fz]⟩) | exact .inr (.inr ⟨_, _, rfl, rfl, rfl, by simp [fz]⟩)), (by first | exact pass_id rfl | exact pass_id (ids_row _) | exact .inr (.inl ⟨_, rfl, rfl, by simp [fz]⟩) | exact .inr (.inr ⟨_, _, rfl, rfl, rfl, by simp [fz]⟩)), trivial⟩) rfl ?_
    refine r_assign rfl (by conv => lhs; whnf) rfl ?_
    refine k_nil ?_
    refine k_seq ?_
    refine awp_seq ?_
    refine awp_seq ?_
    refine awp_region ?_
    refine r_move rfl (by conv => lhs; whnf) rfl ?_
    refine r_bin rfl (by conv => lhs; whnf) (by conv => lhs; whnf) (by simp only [List.length_map, hw1, abin, reduceIte, ne_eq, decide_not, Bool.not_true, Bool.not_false]; rfl) rfl ?_
    refine k_nil ?_
    refine k_seq ?_
    refine awp_cond rfl (fun hc2 => ?_) (fun hc2 => ?_)
    · have hn2 : ¬ ((ids.length : Int) ≤ left - (name.size : Nat)) := by
        intro hh; have hc := of_decide_eq_true hc2; rw [szr_pos (by omega)] at hc; omega
      have hr : szr wt left = -1 := szr_neg (by omega)
      refine awp_seq ?_
      refine awp_region ?_
      refine r_assign rfl (by conv => lhs; whnf) rfl ?_
      refine k_nil ?_
      refine k_seq ?_
      refine awp_ret ?_
      refine k_seq_ret ?_
      refine k_fin ?_
      refine ends_pure [] (by simp only [Try.results15, resOf, List.length_map, hw1, ev_tmp, ev_const, ev_func, upd_at, slots_cons, slots_nil, objs_cons, objs_nil, Nat.reduceLT, Nat.reduceEqDiff, Nat.reduceAdd, reduceIte, if_true, if_false, ofVal, ofS, noOb, reduceCtorEq]; rfl) (by rw [hr]; exact ⟨give_id _, trivial⟩) (by simp [V.idsL, V.ids])
    have hc2' : (ids.length : Int) ≤ left - (name.size : Nat) := by
      have hc := of_decide_eq_false hc2
      rcases Int.lt_or_le (left - (name.size : Nat)) (ids.length : Nat) with hh | hh
      · rw [szr_neg (by omega)] at hc; omega
      · omega
    have he2 : szr ids.length (left - (name.size : Nat)) = left - (name.size : Nat) - (ids.length : Nat) := szr_pos (by omega)
    rw [he2]
    refine awp_skip ?_
    refine k_seq ?_
    refine awp_seq ?_
    refine awp_region ?_
    refine r_fieldAddr rfl yF42_5 (by conv => lhs; whnf) (by conv => lhs; whnf) rfl ?_
    refine r_loadN rfl yA39 yS39 (by conv => lhs; whnf) (by conv => lhs; whnf) (by simp only [List.length_map, hw1, List.take_succ_cons, List.take_zero, List.drop_succ_cons, List.drop_zero, List.take_nil, List.drop_nil, List.nil_append, List.cons_append, List.append_nil, List.length_cons, List.length_nil, List.head?_cons, List.map_cons, List.map_nil, Nat.reduceAdd, Nat.zero_add, List.length_map]; omega) (by (try simp only [List.length_map, hw1, List.take_succ_cons, List.take_zero, List.drop_succ_cons, List.drop_zero, List.take_nil, List.drop_nil, List.nil_append, List.cons_append, List.append_nil, List.length_cons, List.length_nil, List.head?_cons, List.map_cons, List.map_nil, Nat.reduceAdd, Nat.zero_add, List.length_map]); rfl) rfl ?_
    refine r_move rfl (by conv => lhs; whnf) rfl ?_
    have hk3 := szForm_ok (Form.mk data_kind data_name data_n data_scopes data_kids) (left - (name.size : Nat) - (ids.length : Nat)) (by omega) (by omega) (by rw [Form.row_mk]; simp only [T.okL, T.ok, S.ok, List.length_map, and_true, true_and]; simp only [hok, and_self])
    obtain ⟨wt3, hwt3⟩ : ∃ x, x = T.wtL (Form.row (Form.mk data_kind data_name data_n data_scopes data_kids)) := ⟨_, rfl⟩
    rw [← hwt3] at hk3
    rw [Form.row_mk] at hk3 hwt3
    simp only [T.wtL, T.wt, S.wt, T.wtR_ints, List.length_map] at hwt3
    refine r_pure [] rfl rfl rfl (by conv => lhs; whnf) (by simp only [List.length_map, hw1, ev_tmp, ev_const, ev_func, upd_at, slots_cons, slots_nil, objs_cons, objs_nil, Nat.reduceLT, Nat.reduceEqDiff, Nat.reduceAdd, reduceIte, if_true, if_false, ofVal, ofS, noOb, reduceCtorEq, List.take_succ_cons, List.take_zero, List.drop_succ_cons, List.drop_zero, List.take_nil, List.drop_nil, List.nil_append, List.cons_append, List.append_nil, List.length_cons, List.length_nil, List.head?_cons, List.map_cons, List.map_nil, Nat.reduceAdd, Nat.zero_add, List.length_map, List.toList_toArray]; rfl) (by simp only [List.length_map, hw1, fzU, ev_tmp, ev_const, ev_func, upd_at, slots_cons, slots_nil, objs_cons, objs_nil, Nat.reduceLT, Nat.reduceEqDiff, Nat.reduceAdd, reduceIte, if_true, if_false, ofVal, ofS, noOb, reduceCtorEq]; rfl) (by simp only [app]; rfl) (hk3) (by exact ⟨(by first | exact pass_id rfl | exact pass_id (ids_row _) | exact .inr (.inl ⟨_, rfl, rfl, by simp [fz]⟩) | exact .inr (.inr ⟨_, _, rfl, rfl, rfl, by simp [fz]⟩)), (by first | exact pass_id rfl | exact pass_id (ids_row _) | exact .inr (.inl ⟨_, rfl, rfl, by simp [fz]⟩) | exact .inr (.inr ⟨_, _, rfl, rfl, rfl, by simp [fz]⟩)), trivial⟩) rfl ?_
    refine r_assign rfl (by conv => lhs; whnf) rfl ?_
    refine k_nil ?_
    refine k_seq ?_
    refine awp_seq ?_
    refine awp_seq ?_
    refine awp_region ?_
    refine r_move rfl (by conv => lhs; whnf) rfl ?_
    refine r_bin rfl (by conv => lhs; whnf) (by conv => lhs; whnf) (by simp only [List.length_map, hw1, abin, reduceIte, ne_eq, decide_not, Bool.not_true, Bool.not_false]; rfl) rfl ?_
    refine k_nil ?_
    refine k_seq ?_
    refine awp_cond rfl (fun hc3 => ?_) (fun hc3 => ?_)
    · have hn3 : ¬ ((wt3 : Int) ≤ left - (name.size : Nat) - (ids.length : Nat)) := by
        intro hh; have hc := of_decide_eq_true hc3; rw [szr_pos (by omega)] at hc; omega
      have hr : szr wt left = -1 := szr_neg (by omega)
      refine awp_seq ?_
      refine awp_region ?_
      refine r_assign rfl (by conv => lhs; whnf) rfl ?_
      refine k_nil ?_
      refine k_seq ?_
      refine awp_ret ?_
      refine k_seq_ret ?_
      refine k_fin ?_
      refine ends_pure [] (by simp only [Try.results15, resOf, List.length_map, hw1, ev_tmp, ev_const, ev_func, upd_at, slots_cons, slots_nil, objs_cons, objs_nil, Nat.reduceLT, Nat.reduceEqDiff, Nat.reduceAdd, reduceIte, if_true, if_false, ofVal, ofS, noOb, reduceCtorEq]; rfl) (by rw [hr]; exact ⟨give_id _, trivial⟩) (by simp [V.idsL, V.ids])
    have hc3' : (wt3 : Int) ≤ left - (name.size : Nat) - (ids.length : Nat) := by
      have hc := of_decide_eq_false hc3
      rcases Int.lt_or_le (left - (name.size : Nat) - (ids.length : Nat)) (wt3 : Nat) with hh | hh
      · rw [szr_neg (by omega)] at hc; omega
      · omega
    have he3 : szr wt3 (left - (name.size : Nat) - (ids.length : Nat)) = left - (name.size : Nat) - (ids.length : Nat) - (wt3 : Nat) := szr_pos (by omega)
    rw [he3]
    refine awp_skip ?_
    refine k_seq ?_
    refine awp_seq ?_
    refine awp_region ?_
    refine r_fieldAddr rfl yF42_6 (by conv => lhs; whnf) (by conv => lhs; whnf) rfl ?_
    refine r_load1 rfl yA40 (by conv => lhs; whnf) (by conv => lhs; whnf) (by (try simp only [List.length_map, hw1, List.take_succ_cons, List.take_zero, List.drop_succ_cons, List.drop_zero, List.take_nil, List.drop_nil, List.nil_append, List.cons_append, List.append_nil, List.length_cons, List.length_nil, List.head?_cons, List.map_cons, List.map_nil, Nat.reduceAdd, Nat.zero_add, List.length_map]); rfl) rfl ?_
    refine r_move rfl (by conv => lhs; whnf) rfl ?_
    have hk4 := szCoreS_of kids (fun k hk => szCore_ok k) (left - (name.size : Nat) - (ids.length : Nat) - (wt3 : Nat)) (by omega) (by omega) (by simp only [T.ok, List.length_map]; simp only [hok, and_self])
    simp only [T.wt, List.length_map] at hk4
    refine r_pure [] rfl rfl rfl (by conv => lhs; whnf) (by simp only [List.length_map, hw1, ev_tmp, ev_const, ev_func, upd_at, slots_cons, slots_nil, objs_cons, objs_nil, Nat.reduceLT, Nat.reduceEqDiff, Nat.reduceAdd, reduceIte, if_true, if_false, ofVal, ofS, noOb, reduceCtorEq, List.take_succ_cons, List.take_zero, List.drop_succ_cons, List.drop_zero, List.take_nil, List.drop_nil, List.nil_append, List.cons_append, List.append_nil, List.length_cons, List.length_nil, List.head?_cons, List.map_cons, List.map_nil, Nat.reduceAdd, Nat.zero_add, List.length_map, List.toList_toArray]; rfl) (by simp only [List.length_map, hw1, fzU, ev_tmp, ev_const, ev_func, upd_at, slots_cons, slots_nil, objs_cons, objs_nil, Nat.reduceLT, Nat.reduceEqDiff, Nat.reduceAdd, reduceIte, if_true, if_false, ofVal, ofS, noOb, reduceCtorEq]; rfl) (by simp only [app]; rfl) (hk4) (by exact ⟨(by first | exact pass_id rfl | exact pass_id (ids_row _) | exact .inr (.inl ⟨_, rfl, rfl, by simp [fz]⟩) | exact .inr (.inr ⟨_, _, rfl, rfl, rfl, by simp [fz]⟩)), (by first | exact pass_id rfl | exact pass_id (ids_row _) | exact .inr (.inl ⟨_, rfl, rfl, by simp [fz]⟩) | exact .inr (.inr ⟨_, _, rfl, rfl, rfl, by simp [fz]⟩)), trivial⟩) rfl ?_
    refine r_assign rfl (by conv => lhs; whnf) rfl ?_
    refine k_nil ?_
    refine k_seq ?_
    refine awp_seq ?_
    refine awp_seq ?_
    refine awp_region ?_
    refine r_move rfl (by conv => lhs; whnf) rfl ?_
    refine r_bin rfl (by conv => lhs; whnf) (by conv => lhs; whnf) (by simp only [List.length_map, hw1, abin, reduceIte, ne_eq, decide_not, Bool.not_true, Bool.not_false]; rfl) rfl ?_
    refine k_nil ?_
    refine k_seq ?_
    refine awp_cond rfl (fun hc4 => ?_) (fun hc4 => ?_)
    · have hn4 : ¬ (((kids.length + T.wtR (kids.map Core.row)) : Int) ≤ left - (name.size : Nat) - (ids.length : Nat) - (wt3 : Nat)) := by
        intro hh; have hc := of_decide_eq_true hc4; rw [szr_pos (by omega)] at hc; omega
      have hr : szr wt left = -1 := szr_neg (by omega)
      refine awp_seq ?_
      refine awp_region ?_
      refine r_assign rfl (by conv => lhs; whnf) rfl ?_
      refine k_nil ?_
      refine k_seq ?_
      refine awp_ret ?_
      refine k_seq_ret ?_
      refine k_fin ?_
      refine ends_pure [] (by simp only [Try.results15, resOf, List.length_map, hw1, ev_tmp, ev_const, ev_func, upd_at, slots_cons, slots_nil, objs_cons, objs_nil, Nat.reduceLT, Nat.reduceEqDiff, Nat.reduceAdd, reduceIte, if_true, if_false, ofVal, ofS, noOb, reduceCtorEq]; rfl) (by rw [hr]; exact ⟨give_id _, trivial⟩) (by simp [V.idsL, V.ids])
    have hc4' : ((kids.length + T.wtR (kids.map Core.row)) : Int) ≤ left - (name.size : Nat) - (ids.length : Nat) - (wt3 : Nat) := by
      have hc := of_decide_eq_false hc4
      rcases Int.lt_or_le (left - (name.size : Nat) - (ids.length : Nat) - (wt3 : Nat)) ((kids.length + T.wtR (kids.map Core.row)) : Nat) with hh | hh
      · rw [szr_neg (by omega)] at hc; omega
      · omega
    have he4 : szr (kids.length + T.wtR (kids.map Core.row)) (left - (name.size : Nat) - (ids.length : Nat) - (wt3 : Nat)) = left - (name.size : Nat) - (ids.length : Nat) - (wt3 : Nat) - ((kids.length + T.wtR (kids.map Core.row)) : Nat) := szr_pos (by omega)
    rw [he4]
    refine awp_skip ?_
    refine k_seq ?_
    refine awp_seq ?_
    refine awp_region ?_
    refine r_move rfl (by conv => lhs; whnf) rfl ?_
    refine r_assign rfl (by conv => lhs; whnf) rfl ?_
    refine k_nil ?_
    refine k_seq ?_
    refine awp_ret ?_
    refine k_fin ?_
    have hr : szr wt left = left - (name.size : Nat) - (ids.length : Nat) - (wt3 : Nat) - ((kids.length + T.wtR (kids.map Core.row)) : Nat) := by rw [szr_pos (by omega)]; omega
    refine ends_pure [] (by simp only [Try.results15, resOf, List.length_map, hw1, ev_tmp, ev_const, ev_func, upd_at, slots_cons, slots_nil, objs_cons, objs_nil, Nat.reduceLT, Nat.reduceEqDiff, Nat.reduceAdd, reduceIte, if_true, if_false, ofVal, ofS, noOb, reduceCtorEq]; rfl) (by rw [hr]; exact ⟨give_id _, trivial⟩) (by simp [V.idsL, V.ids])
termination_by f => SizeOf.sizeOf f
decreasing_by (have := List.sizeOf_lt_of_mem hk; simp only [Core.mk.sizeOf_spec]; omega)
theorem toCoreS_of (l : List Core) (ih : ∀ f ∈ l, T.wtL f.row ≤ 2 ^ 30 → AC Try.prog 16 [.ag (f.row.map .t)] noOb (.ag (f.row.map .t)) noOb) (hl : T.wt (.sl (l.map Core.row)) ≤ 2 ^ 30) : AC Try.prog 29 [.t (.sl (l.map Core.row))] noOb (.t (.sl (l.map Core.row))) noOb := by
  simp only [T.wt, List.length_map] at hl
  refine AC_intro (rs := [_]) Try.func29 rfl (by kernel_rfl) (by simp [Try.ntmps29]) (by simp [noOb]) ?_
  intro C hC
  rw [Try.ntmps29]
  refine awp_seq ?_
  refine awp_region ?_
  refine r_assign rfl (by conv => lhs; whnf) rfl ?_
  refine k_nil ?_
  refine k_seq ?_
  refine awp_seq ?_
  refine awp_region ?_
  refine r_move rfl (by conv => lhs; whnf) rfl ?_
  refine r_len rfl yU40 (by conv => lhs; whnf) (by conv => lhs; whnf) rfl ?_
  refine r_make rfl yP27 yR29 rfl (by conv => lhs; whnf) (by conv => lhs; whnf) (by omega) (by simp only [List.length_map]; omega) rfl rfl ?_
  refine r_assign rfl (by conv => lhs; whnf) rfl ?_
  refine k_nil ?_
  refine k_seq ?_
  refine awp_seq ?_
  refine awp_seq ?_
  refine awp_region ?_
  refine r_assign rfl (by conv => lhs; whnf) rfl ?_
  refine k_nil ?_
  refine k_seq ?_
  refine awp_block ?_
  refine awp_for (fun j : Nat => l.length - j) (fun j => [(0, .t (.sl (l.map Core.row))), (3, .ar 7), (4, vi j)]) (fun j => [(7, .arr (mid Core.row [(.sc (.int .i64 0)), (.sc (.int .i64 0)), (.sc (.str ⟨#[]⟩)), (.sc (.int .i64 0)), .sl [], (.sc (.int .i64 0)), (.sc (.str ⟨#[]⟩)), (.sc (.int .i64 0)), .sl [], .sl [], .sl []] l j) 29 true)]) (fun j => j ≤ l.length) 0 (Nat.zero_le _) ?_ ?_
  · refine weak_to _ _ (fun k hk => absurd rfl (hC k hk)) ?_ ?_
    · simp only [HasS, upd_at, reduceIte, Nat.reduceEqDiff, V.ids, List.not_mem_nil, false_imp_iff, implies_true, and_true, List.map_cons, List.map_nil]
      simp [slots, List.length_map, List.map_cons]
    · simp only [HasM, upd_at, reduceIte, Nat.reduceEqDiff, Ob.ids, List.not_mem_nil, false_imp_iff, implies_true, and_true, mid_zero, List.length_map, Int.toNat_natCast]
  · intro j hj
    refine awp_seq ?_
    refine awp_seq ?_
    refine awp_region ?_
    refine r_move rfl (by conv => lhs; whnf) rfl ?_
    refine r_move rfl (by conv => lhs; whnf) rfl ?_
    refine r_len rfl yU40 (by conv => lhs; whnf) (by conv => lhs; whnf) rfl ?_
    refine r_bin rfl (by conv => lhs; whnf) (by conv => lhs; whnf) (by simp only [List.length_map, abin, reduceIte, ne_eq, decide_not, Bool.not_true, Bool.not_false]; rfl) rfl ?_
    refine k_nil ?_
    refine k_seq ?_
    refine awp_cond rfl (fun hc => ?_) (fun hc => ?_)
    · have hlt : j < l.length := by have := of_decide_eq_true hc; omega
      have hget := map_get Core.row l j hlt
      have hmg := mid_get Core.row [(.sc (.int .i64 0)), (.sc (.int .i64 0)), (.sc (.str ⟨#[]⟩)), (.sc (.int .i64 0)), .sl [], (.sc (.int .i64 0)), (.sc (.str ⟨#[]⟩)), (.sc (.int .i64 0)), .sl [], .sl [], .sl []] l j hlt
      have hms := mid_set Core.row [(.sc (.int .i64 0)), (.sc (.int .i64 0)), (.sc (.str ⟨#[]⟩)), (.sc (.int .i64 0)), .sl [], (.sc (.int .i64 0)), (.sc (.str ⟨#[]⟩)), (.sc (.int .i64 0)), .sl [], .sl [], .sl []] l j hlt
      have hml := mid_lt Core.row [(.sc (.int .i64 0)), (.sc (.int .i64 0)), (.sc (.str ⟨#[]⟩)), (.sc (.int .i64 0)), .sl [], (.sc (.int .i64 0)), (.sc (.str ⟨#[]⟩)), (.sc (.int .i64 0)), .sl [], .sl [], .sl []] l j hlt
      clear hc
      have hle := T.wtR_le Core.row l (j + 1)
      have hsucc := T.wtR_succ Core.row l j hlt
      have hkid := ih l[j] (List.getElem_mem hlt) (by omega)
      refine awp_skip ?_
      refine k_seq ?_
      refine awp_seq ?_
      refine awp_block ?_
      refine awp_region ?_
      refine r_move rfl (by conv => lhs; whnf) rfl ?_
      refine r_move rfl (by conv => lhs; whnf) rfl ?_
      refine r_move rfl (by conv => lhs; whnf) rfl ?_
      refine r_move rfl (by conv => lhs; whnf) rfl ?_
      refine r_indexAddr rfl yE40 (by conv => lhs; whnf) (by conv => lhs; whnf) (by omega) (by simp only [hget, hml, Core.row_len, Core.take, List.length_map, indexP, ev_tmp, ev_const, ev_func, upd_at, slots_cons, slots_nil, objs_cons, objs_nil, Nat.reduceLT, Nat.reduceEqDiff, Nat.reduceAdd, reduceIte, if_true, if_false, ofVal, ofS, noOb, reduceCtorEq]; rfl) rfl ?_
      refine r_loadN rfl yA42 yS42 (by conv => lhs; whnf) (by conv => lhs; whnf) (by simp only [hget, hml, Core.row_len, Core.take, List.length_map, List.take_succ_cons, List.take_zero, List.drop_succ_cons, List.drop_zero, List.take_nil, List.drop_nil, List.nil_append, List.cons_append, List.append_nil, List.length_cons, List.length_nil, List.head?_cons, List.map_cons, List.map_nil, Nat.reduceAdd, Nat.zero_add, List.length_map]; omega) (by (try simp only [hget, hml, Core.row_len, Core.take, List.length_map, List.take_succ_cons, List.take_zero, List.drop_succ_cons, List.drop_zero, List.take_nil, List.drop_nil, List.nil_append, List.cons_append, List.append_nil, List.length_cons, List.length_nil, List.head?_cons, List.map_cons, List.map_nil, Nat.reduceAdd, Nat.zero_add, List.length_map]); rfl) rfl ?_
      refine r_pure [] rfl rfl rfl (by conv => lhs; whnf) (by simp only [hget, hml, Core.row_len, Core.take, List.length_map, ev_tmp, ev_const, ev_func, upd_at, slots_cons, slots_nil, objs_cons, objs_nil, Nat.reduceLT, Nat.reduceEqDiff, Nat.reduceAdd, reduceIte, if_true, if_false, ofVal, ofS, noOb, reduceCtorEq, List.take_succ_cons, List.take_zero, List.drop_succ_cons, List.drop_zero, List.take_nil, List.drop_nil, List.nil_append, List.cons_append, List.append_nil, List.length_cons, List.length_nil, List.head?_cons, List.map_cons, List.map_nil, Nat.reduceAdd, Nat.zero_add, List.length_map, List.toList_toArray]; rfl) (by simp only [hget, hml, Core.row_len, Core.take, List.length_map, fzU, ev_tmp, ev_const, ev_func, upd_at, slots_cons, slots_nil, objs_cons, objs_nil, Nat.reduceLT, Nat.reduceEqDiff, Nat.reduceAdd, reduceIte, if_true, if_false, ofVal, ofS, noOb, reduceCtorEq]; rfl) (by simp only [app]; rfl) (hkid) (by exact ⟨(by first | exact pass_id rfl | exact pass_id (ids_row _) | exact .inr (.inl ⟨_, rfl, rfl, by simp [fz]⟩) | exact .inr (.inr ⟨_, _, rfl, rfl, rfl, by simp [fz]⟩)), trivial⟩) rfl ?_
      refine r_indexAddr rfl yE27 (by conv => lhs; whnf) (by conv => lhs; whnf) (by omega) (by simp only [hget, hml, Core.row_len, Core.take, List.length_map, indexP, ev_tmp, ev_const, ev_func, upd_at, slots_cons, slots_nil, objs_cons, objs_nil, Nat.reduceLT, Nat.reduceEqDiff, Nat.reduceAdd, reduceIte, if_true, if_false, ofVal, ofS, noOb, reduceCtorEq]; rfl) rfl ?_
      refine r_storeA rfl (by conv => lhs; whnf) (by conv => lhs; whnf) (by conv => lhs; whnf) (by simp only [vcells]; rfl) (by first | rfl | simp only [hget, hml, Core.row_len, Core.take, List.length_map, vcells, oneAll_t]) (by rw [yS29]; simp only [hget, hml, Core.row_len, Core.take, List.length_map, vcells, List.take_succ_cons, List.take_zero, List.drop_succ_cons, List.drop_zero, List.take_nil, List.drop_nil, List.nil_append, List.cons_append, List.append_nil, List.length_cons, List.length_nil, List.head?_cons, List.map_cons, List.map_nil, Nat.reduceAdd, Nat.zero_add, List.length_map]) hmg (by simp only [hget, hml, Core.row_len, Core.take, List.length_map, toTs_t]; rfl) (by rfl) yS29 (by simp only [hget, hml, Core.row_len, Core.take, List.length_map, vcells, List.take_succ_cons, List.take_zero, List.drop_succ_cons, List.drop_zero, List.take_nil, List.drop_nil, List.nil_append, List.cons_append, List.append_nil, List.length_cons, List.length_nil, List.head?_cons, List.map_cons, List.map_nil, Nat.reduceAdd, Nat.zero_add, List.length_map]; omega) (by simp [fz, fz_t]) (by simp only [hget, hml, Core.row_len, Core.take, List.length_map, vcells, fz_t, fz, List.flatMap_cons, List.flatMap_nil, List.take_succ_cons, List.take_zero, List.drop_succ_cons, List.drop_zero, List.take_nil, List.drop_nil, List.nil_append, List.cons_append, List.append_nil, List.length_cons, List.length_nil, List.head?_cons, List.map_cons, List.map_nil, Nat.reduceAdd, Nat.zero_add, List.length_map, fzU]; rfl) rfl (Eq.trans (by rw [splice_all (by simp only [Core.row_len, List.length_cons, List.length_nil]; omega)]) hms) rfl ?_
      refine k_nil ?_
      refine k_blk ?_
      refine k_seq ?_
      refine awp_region ?_
      refine r_move rfl (by conv => lhs; whnf) rfl ?_
      refine r_bin rfl (by conv => lhs; whnf) (by conv => lhs; whnf) (by simp only [hget, hml, Core.row_len, Core.take, List.length_map, abin, reduceIte, ne_eq, decide_not, Bool.not_true, Bool.not_false]; rfl) rfl ?_
      refine r_assign rfl (by conv => lhs; whnf) rfl ?_
      refine k_nil ?_
      refine k_for (j + 1) hlt (by show l.length - (j + 1) < l.length - j; omega) ?_
      refine weak_to _ _ (fun k hk => absurd rfl (hC k hk)) ?_ ?_
      · simp only [HasS, upd_at, slots_cons, reduceIte, Nat.reduceEqDiff, V.ids, List.not_mem_nil, false_imp_iff, implies_true, and_true]
        rw [IntWalk.i64_in _ (by omega)]
        simp [slots, List.length_map]
      · simp only [HasM, upd_at, objs_cons, reduceIte, Nat.reduceEqDiff, Ob.ids, List.not_mem_nil, false_imp_iff, implies_true, and_true]
    · have hje : j = l.length := by have := of_decide_eq_false hc; omega
      subst hje
      rw [mid_all]
      refine awp_exit ?_
      refine k_seq_exit ?_
      refine k_for_exit ?_
      refine k_blk_exit ?_
      refine k_seq ?_
      refine awp_seq ?_
      refine awp_region ?_
      refine r_move rfl (by conv => lhs; whnf) rfl ?_
      refine r_assign rfl (by conv => lhs; whnf) rfl ?_
      refine k_nil ?_
      refine k_seq ?_
      refine awp_ret ?_
      refine k_fin ?_
      refine ends_pure [7] (by simp only [Try.results29, resOf, List.length_map, ev_tmp, ev_const, ev_func, upd_at, slots_cons, slots_nil, objs_cons, objs_nil, Nat.reduceLT, Nat.reduceEqDiff, Nat.reduceAdd, reduceIte, if_true, if_false, ofVal, ofS, noOb, reduceCtorEq]; rfl) (by exact ⟨.inr (.inl ⟨_, by simp only [fzU, app, upd_at, objs_cons, reduceIte, toT, ev_tmp, ev_const, ev_func, upd_at, slots_cons, slots_nil, objs_cons, objs_nil, Nat.reduceLT, Nat.reduceEqDiff, Nat.reduceAdd, reduceIte, if_true, if_false, ofVal, ofS, noOb, reduceCtorEq] <;> rfl, rfl, by simp [fz]⟩), trivial⟩) (by simp [V.idsL, V.ids])
theorem toCore_ok : ∀ (f : Core), T.wtL f.row ≤ 2 ^ 30 → AC Try.prog 16 [.ag (f.row.map .t)] noOb (.ag (f.row.map .t)) noOb
  | (Core.mk kind id name n ids (Form.mk data_kind data_name data_n data_scopes data_kids) kids), hl => by
    rw [Core.row_mk] at hl ⊢
    simp only [T.wtL, T.wt, S.wt, T.wtR_ints, List.length_map] at hl
    refine AC_intro (rs := [_]) Try.func16 rfl (by kernel_rfl) (by simp [Try.ntmps16]) (by simp [noOb]) ?_
    intro C hC
    rw [Try.ntmps16]
    refine awp_seq ?_
    refine awp_region ?_
    refine r_box rfl (by conv => lhs; whnf) rfl (by conv => lhs; whnf) rfl rfl ?_
    refine r_alloc rfl yZ29 rfl rfl ?_
    refine k_nil ?_
    refine k_seq ?_
    refine awp_seq ?_
    refine awp_region ?_
    refine r_alloc rfl yZ29 rfl rfl ?_
    refine k_nil ?_
    refine k_seq ?_
    refine awp_seq ?_
    refine awp_region ?_
    refine r_fieldAddr rfl yF42_0 (by conv => lhs; whnf) (by conv => lhs; whnf) rfl ?_
    refine r_load1 rfl yA3 (by conv => lhs; whnf) (by conv => lhs; whnf) (by (try simp only [List.take_succ_cons, List.take_zero, List.drop_succ_cons, List.drop_zero, List.take_nil, List.drop_nil, List.nil_append, List.cons_append, List.append_nil, List.length_cons, List.length_nil, List.head?_cons, List.map_cons, List.map_nil, Nat.reduceAdd, Nat.zero_add, List.length_map]); rfl) rfl ?_
    refine r_fieldAddr rfl yF29_0 (by conv => lhs; whnf) (by conv => lhs; whnf) rfl ?_
    refine r_storeB rfl (by conv => lhs; whnf) (by conv => lhs; whnf) (by conv => lhs; whnf) (by conv => lhs; whnf) (by first | rfl | simp only [oneAll_t]) (by rw [yS3]; simp only [List.take_succ_cons, List.take_zero, List.drop_succ_cons, List.drop_zero, List.take_nil, List.drop_nil, List.nil_append, List.cons_append, List.append_nil, List.length_cons, List.length_nil, List.head?_cons, List.map_cons, List.map_nil, Nat.reduceAdd, Nat.zero_add, List.length_map]) (by simp only [List.take_succ_cons, List.take_zero, List.drop_succ_cons, List.drop_zero, List.take_nil, List.drop_nil, List.nil_append, List.cons_append, List.append_nil, List.length_cons, List.length_nil, List.head?_cons, List.map_cons, List.map_nil, Nat.reduceAdd, Nat.zero_add, List.length_map]; omega) (by simp only [splice, List.take_succ_cons, List.take_zero, List.drop_succ_cons, List.drop_zero, List.take_nil, List.drop_nil, List.nil_append, List.cons_append, List.append_nil, List.length_cons, List.length_nil, List.head?_cons, List.map_cons, List.map_nil, Nat.reduceAdd, Nat.zero_add, List.length_map]; rfl) rfl ?_
    refine k_nil ?_
    refine k_seq ?_
    refine awp_seq ?_
    refine awp_region ?_
    refine r_fieldAddr rfl yF42_1 (by conv => lhs; whnf) (by conv => lhs; whnf) rfl ?_
    refine r_load1 rfl yA3 (by conv => lhs; whnf) (by conv => lhs; whnf) (by (try simp only [List.take_succ_cons, List.take_zero, List.drop_succ_cons, List.drop_zero, List.take_nil, List.drop_nil, List.nil_append, List.cons_append, List.append_nil, List.length_cons, List.length_nil, List.head?_cons, List.map_cons, List.map_nil, Nat.reduceAdd, Nat.zero_add, List.length_map]); rfl) rfl ?_
    refine r_fieldAddr rfl yF29_1 (by conv => lhs; whnf) (by conv => lhs; whnf) rfl ?_
    refine r_storeB rfl (by conv => lhs; whnf) (by conv => lhs; whnf) (by conv => lhs; whnf) (by conv => lhs; whnf) (by first | rfl | simp only [oneAll_t]) (by rw [yS3]; simp only [List.take_succ_cons, List.take_zero, List.drop_succ_cons, List.drop_zero, List.take_nil, List.drop_nil, List.nil_append, List.cons_append, List.append_nil, List.length_cons, List.length_nil, List.head?_cons, List.map_cons, List.map_nil, Nat.reduceAdd, Nat.zero_add, List.length_map]) (by simp only [List.take_succ_cons, List.take_zero, List.drop_succ_cons, List.drop_zero, List.take_nil, List.drop_nil, List.nil_append, List.cons_append, List.append_nil, List.length_cons, List.length_nil, List.head?_cons, List.map_cons, List.map_nil, Nat.reduceAdd, Nat.zero_add, List.length_map]; omega) (by simp only [splice, List.take_succ_cons, List.take_zero, List.drop_succ_cons, List.drop_zero, List.take_nil, List.drop_nil, List.nil_append, List.cons_append, List.append_nil, List.length_cons, List.length_nil, List.head?_cons, List.map_cons, List.map_nil, Nat.reduceAdd, Nat.zero_add, List.length_map]; rfl) rfl ?_
    refine k_nil ?_
    refine k_seq ?_
    refine awp_seq ?_
    refine awp_region ?_
    refine r_fieldAddr rfl yF42_2 (by conv => lhs; whnf) (by conv => lhs; whnf) rfl ?_
    refine r_load1 rfl yA9 (by conv => lhs; whnf) (by conv => lhs; whnf) (by (try simp only [List.take_succ_cons, List.take_zero, List.drop_succ_cons, List.drop_zero, List.take_nil, List.drop_nil, List.nil_append, List.cons_append, List.append_nil, List.length_cons, List.length_nil, List.head?_cons, List.map_cons, List.map_nil, Nat.reduceAdd, Nat.zero_add, List.length_map]); rfl) rfl ?_
    refine r_fieldAddr rfl yF29_2 (by conv => lhs; whnf) (by conv => lhs; whnf) rfl ?_
    refine r_storeB rfl (by conv => lhs; whnf) (by conv => lhs; whnf) (by conv => lhs; whnf) (by conv => lhs; whnf) (by first | rfl | simp only [oneAll_t]) (by rw [yS9]; simp only [List.take_succ_cons, List.take_zero, List.drop_succ_cons, List.drop_zero, List.take_nil, List.drop_nil, List.nil_append, List.cons_append, List.append_nil, List.length_cons, List.length_nil, List.head?_cons, List.map_cons, List.map_nil, Nat.reduceAdd, Nat.zero_add, List.length_map]) (by simp only [List.take_succ_cons, List.take_zero, List.drop_succ_cons, List.drop_zero, List.take_nil, List.drop_nil, List.nil_append, List.cons_append, List.append_nil, List.length_cons, List.length_nil, List.head?_cons, List.map_cons, List.map_nil, Nat.reduceAdd, Nat.zero_add, List.length_map]; omega) (by simp only [splice, List.take_succ_cons, List.take_zero, List.drop_succ_cons, List.drop_zero, List.take_nil, List.drop_nil, List.nil_append, List.cons_append, List.append_nil, List.length_cons, List.length_nil, List.head?_cons, List.map_cons, List.map_nil, Nat.reduceAdd, Nat.zero_add, List.length_map]; rfl) rfl ?_
    refine k_nil ?_
    refine k_seq ?_
    refine awp_seq ?_
    refine awp_region ?_
    refine r_fieldAddr rfl yF42_3 (by conv => lhs; whnf) (by conv => lhs; whnf) rfl ?_
    refine r_load1 rfl yA3 (by conv => lhs; whnf) (by conv => lhs; whnf) (by (try simp only [List.take_succ_cons, List.take_zero, List.drop_succ_cons, List.drop_zero, List.take_nil, List.drop_nil, List.nil_append, List.cons_append, List.append_nil, List.length_cons, List.length_nil, List.head?_cons, List.map_cons, List.map_nil, Nat.reduceAdd, Nat.zero_add, List.length_map]); rfl) rfl ?_
    refine r_fieldAddr rfl yF29_3 (by conv => lhs; whnf) (by conv => lhs; whnf) rfl ?_
    refine r_storeB rfl (by conv => lhs; whnf) (by conv => lhs; whnf) (by conv => lhs; whnf) (by conv => lhs; whnf) (by first | rfl | simp only [oneAll_t]) (by rw [yS3]; simp only [List.take_succ_cons, List.take_zero, List.drop_succ_cons, List.drop_zero, List.take_nil, List.drop_nil, List.nil_append, List.cons_append, List.append_nil, List.length_cons, List.length_nil, List.head?_cons, List.map_cons, List.map_nil, Nat.reduceAdd, Nat.zero_add, List.length_map]) (by simp only [List.take_succ_cons, List.take_zero, List.drop_succ_cons, List.drop_zero, List.take_nil, List.drop_nil, List.nil_append, List.cons_append, List.append_nil, List.length_cons, List.length_nil, List.head?_cons, List.map_cons, List.map_nil, Nat.reduceAdd, Nat.zero_add, List.length_map]; omega) (by simp only [splice, List.take_succ_cons, List.take_zero, List.drop_succ_cons, List.drop_zero, List.take_nil, List.drop_nil, List.nil_append, List.cons_append, List.append_nil, List.length_cons, List.length_nil, List.head?_cons, List.map_cons, List.map_nil, Nat.reduceAdd, Nat.zero_add, List.length_map]; rfl) rfl ?_
    refine k_nil ?_
    refine k_seq ?_
    refine awp_seq ?_
    refine awp_region ?_
    refine r_fieldAddr rfl yF42_4 (by conv => lhs; whnf) (by conv => lhs; whnf) rfl ?_
    refine r_load1 rfl yA23 (by conv => lhs; whnf) (by conv => lhs; whnf) (by (try simp only [List.take_succ_cons, List.take_zero, List.drop_succ_cons, List.drop_zero, List.take_nil, List.drop_nil, List.nil_append, List.cons_append, List.append_nil, List.length_cons, List.length_nil, List.head?_cons, List.map_cons, List.map_nil, Nat.reduceAdd, Nat.zero_add, List.length_map]); rfl) rfl ?_
    have hk1 := toIntS_ok ids (by omega)
    refine r_pure [] rfl rfl rfl (by conv => lhs; whnf) (by simp only [ev_tmp, ev_const, ev_func, upd_at, slots_cons, slots_nil, objs_cons, objs_nil, Nat.reduceLT, Nat.reduceEqDiff, Nat.reduceAdd, reduceIte, if_true, if_false, ofVal, ofS, noOb, reduceCtorEq, List.take_succ_cons, List.take_zero, List.drop_succ_cons, List.drop_zero, List.take_nil, List.drop_nil, List.nil_append, List.cons_append, List.append_nil, List.length_cons, List.length_nil, List.head?_cons, List.map_cons, List.map_nil, Nat.reduceAdd, Nat.zero_add, List.length_map, List.toList_toArray]; rfl) (by simp only [fzU, ev_tmp, ev_const, ev_func, upd_at, slots_cons, slots_nil, objs_cons, objs_nil, Nat.reduceLT, Nat.reduceEqDiff, Nat.reduceAdd, reduceIte, if_true, if_false, ofVal, ofS, noOb, reduceCtorEq]; rfl) (by simp only [app]; rfl) (hk1) (by exact ⟨(by first | exact pass_id rfl | exact pass_id (ids_row _) | exact .inr (.inl ⟨_, rfl, rfl, by simp [fz]⟩) | exact .inr (.inr ⟨_, _, rfl, rfl, rfl, by simp [fz]⟩)), trivial⟩) rfl ?_
    refine r_fieldAddr rfl yF29_4 (by conv => lhs; whnf) (by conv => lhs; whnf) rfl ?_
    refine r_storeB rfl (by conv => lhs; whnf) (by conv => lhs; whnf) (by conv => lhs; whnf) (by conv => lhs; whnf) (by first | rfl | simp only [oneAll_t]) (by rw [yS23]; simp only [List.take_succ_cons, List.take_zero, List.drop_succ_cons, List.drop_zero, List.take_nil, List.drop_nil, List.nil_append, List.cons_append, List.append_nil, List.length_cons, List.length_nil, List.head?_cons, List.map_cons, List.map_nil, Nat.reduceAdd, Nat.zero_add, List.length_map]) (by simp only [List.take_succ_cons, List.take_zero, List.drop_succ_cons, List.drop_zero, List.take_nil, List.drop_nil, List.nil_append, List.cons_append, List.append_nil, List.length_cons, List.length_nil, List.head?_cons, List.map_cons, List.map_nil, Nat.reduceAdd, Nat.zero_add, List.length_map]; omega) (by simp only [splice, List.take_succ_cons, List.take_zero, List.drop_succ_cons, List.drop_zero, List.take_nil, List.drop_nil, List.nil_append, List.cons_append, List.append_nil, List.length_cons, List.length_nil, List.head?_cons, List.map_cons, List.map_nil, Nat.reduceAdd, Nat.zero_add, List.length_map]; rfl) rfl ?_
    refine k_nil ?_
    refine k_seq ?_
    refine awp_seq ?_
    refine awp_region ?_
    refine r_fieldAddr rfl yF42_5 (by conv => lhs; whnf) (by conv => lhs; whnf) rfl ?_
    refine r_loadN rfl yA39 yS39 (by conv => lhs; whnf) (by conv => lhs; whnf) (by simp only [List.take_succ_cons, List.take_zero, List.drop_succ_cons, List.drop_zero, List.take_nil, List.drop_nil, List.nil_append, List.cons_append, List.append_nil, List.length_cons, List.length_nil, List.head?_cons, List.map_cons, List.map_nil, Nat.reduceAdd, Nat.zero_add, List.length_map]; omega) (by (try simp only [List.take_succ_cons, List.take_zero, List.drop_succ_cons, List.drop_zero, List.take_nil, List.drop_nil, List.nil_append, List.cons_append, List.append_nil, List.length_cons, List.length_nil, List.head?_cons, List.map_cons, List.map_nil, Nat.reduceAdd, Nat.zero_add, List.length_map]); rfl) rfl ?_
    have hk2 := toForm_ok (Form.mk data_kind data_name data_n data_scopes data_kids) (by rw [Form.row_mk]; simp only [T.wtL, T.wt, S.wt, T.wtR_ints, List.length_map]; omega)
    rw [Form.row_mk] at hk2
    refine r_pure [] rfl rfl rfl (by conv => lhs; whnf) (by simp only [ev_tmp, ev_const, ev_func, upd_at, slots_cons, slots_nil, objs_cons, objs_nil, Nat.reduceLT, Nat.reduceEqDiff, Nat.reduceAdd, reduceIte, if_true, if_false, ofVal, ofS, noOb, reduceCtorEq, List.take_succ_cons, List.take_zero, List.drop_succ_cons, List.drop_zero, List.take_nil, List.drop_nil, List.nil_append, List.cons_append, List.append_nil, List.length_cons, List.length_nil, List.head?_cons, List.map_cons, List.map_nil, Nat.reduceAdd, Nat.zero_add, List.length_map, List.toList_toArray]; rfl) (by simp only [fzU, ev_tmp, ev_const, ev_func, upd_at, slots_cons, slots_nil, objs_cons, objs_nil, Nat.reduceLT, Nat.reduceEqDiff, Nat.reduceAdd, reduceIte, if_true, if_false, ofVal, ofS, noOb, reduceCtorEq]; rfl) (by simp only [app]; rfl) (hk2) (by exact ⟨(by first | exact pass_id rfl | exact pass_id (ids_row _) | exact .inr (.inl ⟨_, rfl, rfl, by simp [fz]⟩) | exact .inr (.inr ⟨_, _, rfl, rfl, rfl, by simp [fz]⟩)), trivial⟩) rfl ?_
    refine r_fieldAddr rfl yF29_5 (by conv => lhs; whnf) (by conv => lhs; whnf) rfl ?_
    refine r_storeB rfl (by conv => lhs; whnf) (by conv => lhs; whnf) (by conv => lhs; whnf) (by conv => lhs; whnf) (by first | rfl | simp only [oneAll_t]) (by rw [yS26]; simp only [List.take_succ_cons, List.take_zero, List.drop_succ_cons, List.drop_zero, List.take_nil, List.drop_nil, List.nil_append, List.cons_append, List.append_nil, List.length_cons, List.length_nil, List.head?_cons, List.map_cons, List.map_nil, Nat.reduceAdd, Nat.zero_add, List.length_map]) (by simp only [List.take_succ_cons, List.take_zero, List.drop_succ_cons, List.drop_zero, List.take_nil, List.drop_nil, List.nil_append, List.cons_append, List.append_nil, List.length_cons, List.length_nil, List.head?_cons, List.map_cons, List.map_nil, Nat.reduceAdd, Nat.zero_add, List.length_map]; omega) (by simp only [splice, List.take_succ_cons, List.take_zero, List.drop_succ_cons, List.drop_zero, List.take_nil, List.drop_nil, List.nil_append, List.cons_append, List.append_nil, List.length_cons, List.length_nil, List.head?_cons, List.map_cons, List.map_nil, Nat.reduceAdd, Nat.zero_add, List.length_map]; rfl) rfl ?_
    refine k_nil ?_
    refine k_seq ?_
    refine awp_seq ?_
    refine awp_region ?_
    refine r_fieldAddr rfl yF42_6 (by conv => lhs; whnf) (by conv => lhs; whnf) rfl ?_
    refine r_load1 rfl yA40 (by conv => lhs; whnf) (by conv => lhs; whnf) (by (try simp only [List.take_succ_cons, List.take_zero, List.drop_succ_cons, List.drop_zero, List.take_nil, List.drop_nil, List.nil_append, List.cons_append, List.append_nil, List.length_cons, List.length_nil, List.head?_cons, List.map_cons, List.map_nil, Nat.reduceAdd, Nat.zero_add, List.length_map]); rfl) rfl ?_
    have hk3 := toCoreS_of kids (fun k hk => toCore_ok k) (by simp only [T.wt, List.length_map]; omega)
    refine r_pure [] rfl rfl rfl (by conv => lhs; whnf) (by simp only [ev_tmp, ev_const, ev_func, upd_at, slots_cons, slots_nil, objs_cons, objs_nil, Nat.reduceLT, Nat.reduceEqDiff, Nat.reduceAdd, reduceIte, if_true, if_false, ofVal, ofS, noOb, reduceCtorEq, List.take_succ_cons, List.take_zero, List.drop_succ_cons, List.drop_zero, List.take_nil, List.drop_nil, List.nil_append, List.cons_append, List.append_nil, List.length_cons, List.length_nil, List.head?_cons, List.map_cons, List.map_nil, Nat.reduceAdd, Nat.zero_add, List.length_map, List.toList_toArray]; rfl) (by simp only [fzU, ev_tmp, ev_const, ev_func, upd_at, slots_cons, slots_nil, objs_cons, objs_nil, Nat.reduceLT, Nat.reduceEqDiff, Nat.reduceAdd, reduceIte, if_true, if_false, ofVal, ofS, noOb, reduceCtorEq]; rfl) (by simp only [app]; rfl) (hk3) (by exact ⟨(by first | exact pass_id rfl | exact pass_id (ids_row _) | exact .inr (.inl ⟨_, rfl, rfl, by simp [fz]⟩) | exact .inr (.inr ⟨_, _, rfl, rfl, rfl, by simp [fz]⟩)), trivial⟩) rfl ?_
    refine r_fieldAddr rfl yF29_6 (by conv => lhs; whnf) (by conv => lhs; whnf) rfl ?_
    refine r_storeB rfl (by conv => lhs; whnf) (by conv => lhs; whnf) (by conv => lhs; whnf) (by conv => lhs; whnf) (by first | rfl | simp only [oneAll_t]) (by rw [yS27]; simp only [List.take_succ_cons, List.take_zero, List.drop_succ_cons, List.drop_zero, List.take_nil, List.drop_nil, List.nil_append, List.cons_append, List.append_nil, List.length_cons, List.length_nil, List.head?_cons, List.map_cons, List.map_nil, Nat.reduceAdd, Nat.zero_add, List.length_map]) (by simp only [List.take_succ_cons, List.take_zero, List.drop_succ_cons, List.drop_zero, List.take_nil, List.drop_nil, List.nil_append, List.cons_append, List.append_nil, List.length_cons, List.length_nil, List.head?_cons, List.map_cons, List.map_nil, Nat.reduceAdd, Nat.zero_add, List.length_map]; omega) (by simp only [splice, List.take_succ_cons, List.take_zero, List.drop_succ_cons, List.drop_zero, List.take_nil, List.drop_nil, List.nil_append, List.cons_append, List.append_nil, List.length_cons, List.length_nil, List.head?_cons, List.map_cons, List.map_nil, Nat.reduceAdd, Nat.zero_add, List.length_map]; rfl) rfl ?_
    refine k_nil ?_
    refine k_seq ?_
    refine awp_seq ?_
    refine awp_region ?_
    refine r_loadN rfl yA29 yS29 (by conv => lhs; whnf) (by conv => lhs; whnf) (by simp only [List.take_succ_cons, List.take_zero, List.drop_succ_cons, List.drop_zero, List.take_nil, List.drop_nil, List.nil_append, List.cons_append, List.append_nil, List.length_cons, List.length_nil, List.head?_cons, List.map_cons, List.map_nil, Nat.reduceAdd, Nat.zero_add, List.length_map]; omega) (by (try simp only [List.take_succ_cons, List.take_zero, List.drop_succ_cons, List.drop_zero, List.take_nil, List.drop_nil, List.nil_append, List.cons_append, List.append_nil, List.length_cons, List.length_nil, List.head?_cons, List.map_cons, List.map_nil, Nat.reduceAdd, Nat.zero_add, List.length_map]); rfl) rfl ?_
    refine r_storeB rfl (by conv => lhs; whnf) (by conv => lhs; whnf) (by conv => lhs; whnf) (by conv => lhs; whnf) (by first | rfl | simp only [oneAll_t]) (by rw [yS29]; simp only [List.take_succ_cons, List.take_zero, List.drop_succ_cons, List.drop_zero, List.take_nil, List.drop_nil, List.nil_append, List.cons_append, List.append_nil, List.length_cons, List.length_nil, List.head?_cons, List.map_cons, List.map_nil, Nat.reduceAdd, Nat.zero_add, List.length_map]) (by simp only [List.take_succ_cons, List.take_zero, List.drop_succ_cons, List.drop_zero, List.take_nil, List.drop_nil, List.nil_append, List.cons_append, List.append_nil, List.length_cons, List.length_nil, List.head?_cons, List.map_cons, List.map_nil, Nat.reduceAdd, Nat.zero_add, List.length_map]; omega) (splice_all (by simp only [List.take_succ_cons, List.take_zero, List.drop_succ_cons, List.drop_zero, List.take_nil, List.drop_nil, List.nil_append, List.cons_append, List.append_nil, List.length_cons, List.length_nil, List.head?_cons, List.map_cons, List.map_nil, Nat.reduceAdd, Nat.zero_add, List.length_map]; omega)) rfl ?_
    refine k_nil ?_
    refine k_seq ?_
    refine awp_ret ?_
    refine k_fin ?_
    refine ends_pure [] (by simp only [Try.results16, resOf, List.length_map, ev_tmp, ev_const, ev_func, upd_at, slots_cons, slots_nil, objs_cons, objs_nil, Nat.reduceLT, Nat.reduceEqDiff, Nat.reduceAdd, reduceIte, if_true, if_false, ofVal, ofS, noOb, reduceCtorEq]; rfl) (by skip; exact ⟨give_id _, trivial⟩) (by simp [V.idsL, V.ids])
termination_by f => SizeOf.sizeOf f
decreasing_by (have := List.sizeOf_lt_of_mem hk; simp only [Core.mk.sizeOf_spec]; omega)
theorem eqCoreS_of (l : List Core) (ih : ∀ f ∈ l, T.wtL f.row ≤ 2 ^ 30 → AC Try.prog 17 [.ag (f.row.map .t), .ag (f.row.map .t)] noOb (vb true) noOb) (hl : T.wt (.sl (l.map Core.row)) ≤ 2 ^ 30) : AC Try.prog 32 [.t (.sl (l.map Core.row)), .t (.sl (l.map Core.row))] noOb (vb true) noOb := by
  simp only [T.wt, List.length_map] at hl
  refine AC_intro (rs := [_]) Try.func32 rfl (by kernel_rfl) (by simp [Try.ntmps32]) (by simp [noOb]) ?_
  intro C hC
  rw [Try.ntmps32]
  refine awp_seq ?_
  refine awp_region ?_
  refine r_assign rfl (by conv => lhs; whnf) rfl ?_
  refine k_nil ?_
  refine k_seq ?_
  refine awp_seq ?_
  refine awp_seq ?_
  refine awp_region ?_
  refine r_move rfl (by conv => lhs; whnf) rfl ?_
  refine r_len rfl yU27 (by conv => lhs; whnf) (by conv => lhs; whnf) rfl ?_
  refine r_move rfl (by conv => lhs; whnf) rfl ?_
  refine r_len rfl yU27 (by conv => lhs; whnf) (by conv => lhs; whnf) rfl ?_
  refine r_bin rfl (by conv => lhs; whnf) (by conv => lhs; whnf) (by simp only [List.length_map, abin, reduceIte, ne_eq, decide_not, Bool.not_true, Bool.not_false]; rfl) rfl ?_
  refine k_nil ?_
  refine k_seq ?_
  refine awp_cond rfl (fun hc => ?_) (fun hc => ?_)
  · exact absurd hc (by simp)
  · clear hc
    refine awp_skip ?_
    refine k_seq ?_
    refine awp_seq ?_
    refine awp_seq ?_
    refine awp_region ?_
    refine r_assign rfl (by conv => lhs; whnf) rfl ?_
    refine k_nil ?_
    refine k_seq ?_
    refine awp_block ?_
    refine awp_for (fun j : Nat => l.length - j) (fun j => [(0, .t (.sl (l.map Core.row))), (1, .t (.sl (l.map Core.row))), (5, vi j)]) (fun _ => []) (fun j => j ≤ l.length) 0 (Nat.zero_le _) ?_ ?_
    · refine weak_to _ _ (fun k hk => absurd rfl (hC k hk)) ?_ trivial
      simp only [HasS, upd_at, reduceIte, Nat.reduceEqDiff, V.ids, List.not_mem_nil, false_imp_iff, implies_true, and_true]
      simp [slots]
    · intro j hj
      refine awp_seq ?_
      refine awp_seq ?_
      refine awp_region ?_
      refine r_move rfl (by conv => lhs; whnf) rfl ?_
      refine r_move rfl (by conv => lhs; whnf) rfl ?_
      refine r_len rfl yU27 (by conv => lhs; whnf) (by conv => lhs; whnf) rfl ?_
      refine r_bin rfl (by conv => lhs; whnf) (by conv => lhs; whnf) (by simp only [List.length_map, abin, reduceIte, ne_eq, decide_not, Bool.not_true, Bool.not_false]; rfl) rfl ?_
      refine k_nil ?_
      refine k_seq ?_
      refine awp_cond rfl (fun hc => ?_) (fun hc => ?_)
      · have hlt : j < l.length := by have := of_decide_eq_true hc; omega
        have hget := map_get Core.row l j hlt
        clear hc
        have hle := T.wtR_le Core.row l (j + 1)
        have hsucc := T.wtR_succ Core.row l j hlt
        have hkid := ih l[j] (List.getElem_mem hlt) (by omega)
        refine awp_skip ?_
        refine k_seq ?_
        refine awp_seq ?_
        refine awp_block ?_
        refine awp_seq ?_
        refine awp_draw yMix (by kernel_rfl) ?_
        refine r_move rfl (by conv => lhs; whnf) (by simp only [fpOf, idOf, Option.getD_some, Option.getD_none, Op.operands, Call.operands, V.idsL, V.ids, idsL_t, List.append_nil, List.nil_append, List.cons_append, List.toList_toArray, List.map_toArray, List.size_toArray, List.append_toArray, ev_tmp, ev_const, ev_func, upd_at, slots_cons, slots_nil, objs_cons, objs_nil, Nat.reduceLT, Nat.reduceEqDiff, Nat.reduceAdd, reduceIte, if_true, if_false, ofVal, ofS, noOb, reduceCtorEq, List.take_succ_cons, List.take_zero, List.drop_succ_cons, List.drop_zero, List.take_nil, List.drop_nil, List.nil_append, List.cons_append, List.append_nil, List.length_cons, List.length_nil, List.head?_cons, List.map_cons, List.map_nil, Nat.reduceAdd, Nat.zero_add, List.length_map, hget, Core.row_len, Core.take, List.length_map]; rfl) ?_
        refine r_move rfl (by conv => lhs; whnf) (by simp only [fpOf, idOf, Option.getD_some, Option.getD_none, Op.operands, Call.operands, V.idsL, V.ids, idsL_t, List.append_nil, List.nil_append, List.cons_append, List.toList_toArray, List.map_toArray, List.size_toArray, List.append_toArray, ev_tmp, ev_const, ev_func, upd_at, slots_cons, slots_nil, objs_cons, objs_nil, Nat.reduceLT, Nat.reduceEqDiff, Nat.reduceAdd, reduceIte, if_true, if_false, ofVal, ofS, noOb, reduceCtorEq, List.take_succ_cons, List.take_zero, List.drop_succ_cons, List.drop_zero, List.take_nil, List.drop_nil, List.nil_append, List.cons_append, List.append_nil, List.length_cons, List.length_nil, List.head?_cons, List.map_cons, List.map_nil, Nat.reduceAdd, Nat.zero_add, List.length_map, hget, Core.row_len, Core.take, List.length_map]; rfl) ?_
        refine r_indexAddr rfl yE27 (by conv => lhs; whnf) (by conv => lhs; whnf) (by omega) (by simp only [hget, Core.row_len, Core.take, List.length_map, indexP, ev_tmp, ev_const, ev_func, upd_at, slots_cons, slots_nil, objs_cons, objs_nil, Nat.reduceLT, Nat.reduceEqDiff, Nat.reduceAdd, reduceIte, if_true, if_false, ofVal, ofS, noOb, reduceCtorEq]; rfl) (by simp only [fpOf, idOf, Option.getD_some, Option.getD_none, Op.operands, Call.operands, V.idsL, V.ids, idsL_t, List.append_nil, List.nil_append, List.cons_append, List.toList_toArray, List.map_toArray, List.size_toArray, List.append_toArray, ev_tmp, ev_const, ev_func, upd_at, slots_cons, slots_nil, objs_cons, objs_nil, Nat.reduceLT, Nat.reduceEqDiff, Nat.reduceAdd, reduceIte, if_true, if_false, ofVal, ofS, noOb, reduceCtorEq, List.take_succ_cons, List.take_zero, List.drop_succ_cons, List.drop_zero, List.take_nil, List.drop_nil, List.nil_append, List.cons_append, List.append_nil, List.length_cons, List.length_nil, List.head?_cons, List.map_cons, List.map_nil, Nat.reduceAdd, Nat.zero_add, List.length_map, hget, Core.row_len, Core.take, List.length_map]; rfl) ?_
        refine r_loadN rfl yA29 yS29 (by conv => lhs; whnf) (by conv => lhs; whnf) (by simp only [hget, Core.row_len, Core.take, List.length_map, List.take_succ_cons, List.take_zero, List.drop_succ_cons, List.drop_zero, List.take_nil, List.drop_nil, List.nil_append, List.cons_append, List.append_nil, List.length_cons, List.length_nil, List.head?_cons, List.map_cons, List.map_nil, Nat.reduceAdd, Nat.zero_add, List.length_map]; omega) (by (try simp only [hget, Core.row_len, Core.take, List.length_map, List.take_succ_cons, List.take_zero, List.drop_succ_cons, List.drop_zero, List.take_nil, List.drop_nil, List.nil_append, List.cons_append, List.append_nil, List.length_cons, List.length_nil, List.head?_cons, List.map_cons, List.map_nil, Nat.reduceAdd, Nat.zero_add, List.length_map]); rfl) (by simp only [fpOf, idOf, Option.getD_some, Option.getD_none, Op.operands, Call.operands, V.idsL, V.ids, idsL_t, List.append_nil, List.nil_append, List.cons_append, List.toList_toArray, List.map_toArray, List.size_toArray, List.append_toArray, ev_tmp, ev_const, ev_func, upd_at, slots_cons, slots_nil, objs_cons, objs_nil, Nat.reduceLT, Nat.reduceEqDiff, Nat.reduceAdd, reduceIte, if_true, if_false, ofVal, ofS, noOb, reduceCtorEq, List.take_succ_cons, List.take_zero, List.drop_succ_cons, List.drop_zero, List.take_nil, List.drop_nil, List.nil_append, List.cons_append, List.append_nil, List.length_cons, List.length_nil, List.head?_cons, List.map_cons, List.map_nil, Nat.reduceAdd, Nat.zero_add, List.length_map, hget, Core.row_len, Core.take, List.length_map]; rfl) ?_
        refine r_move rfl (by conv => lhs; whnf) (by simp only [fpOf, idOf, Option.getD_some, Option.getD_none, Op.operands, Call.operands, V.idsL, V.ids, idsL_t, List.append_nil, List.nil_append, List.cons_append, List.toList_toArray, List.map_toArray, List.size_toArray, List.append_toArray, ev_tmp, ev_const, ev_func, upd_at, slots_cons, slots_nil, objs_cons, objs_nil, Nat.reduceLT, Nat.reduceEqDiff, Nat.reduceAdd, reduceIte, if_true, if_false, ofVal, ofS, noOb, reduceCtorEq, List.take_succ_cons, List.take_zero, List.drop_succ_cons, List.drop_zero, List.take_nil, List.drop_nil, List.nil_append, List.cons_append, List.append_nil, List.length_cons, List.length_nil, List.head?_cons, List.map_cons, List.map_nil, Nat.reduceAdd, Nat.zero_add, List.length_map, hget, Core.row_len, Core.take, List.length_map]; rfl) ?_
        refine r_move rfl (by conv => lhs; whnf) (by simp only [fpOf, idOf, Option.getD_some, Option.getD_none, Op.operands, Call.operands, V.idsL, V.ids, idsL_t, List.append_nil, List.nil_append, List.cons_append, List.toList_toArray, List.map_toArray, List.size_toArray, List.append_toArray, ev_tmp, ev_const, ev_func, upd_at, slots_cons, slots_nil, objs_cons, objs_nil, Nat.reduceLT, Nat.reduceEqDiff, Nat.reduceAdd, reduceIte, if_true, if_false, ofVal, ofS, noOb, reduceCtorEq, List.take_succ_cons, List.take_zero, List.drop_succ_cons, List.drop_zero, List.take_nil, List.drop_nil, List.nil_append, List.cons_append, List.append_nil, List.length_cons, List.length_nil, List.head?_cons, List.map_cons, List.map_nil, Nat.reduceAdd, Nat.zero_add, List.length_map, hget, Core.row_len, Core.take, List.length_map]; rfl) ?_
        refine r_indexAddr rfl yE27 (by conv => lhs; whnf) (by conv => lhs; whnf) (by omega) (by simp only [hget, Core.row_len, Core.take, List.length_map, indexP, ev_tmp, ev_const, ev_func, upd_at, slots_cons, slots_nil, objs_cons, objs_nil, Nat.reduceLT, Nat.reduceEqDiff, Nat.reduceAdd, reduceIte, if_true, if_false, ofVal, ofS, noOb, reduceCtorEq]; rfl) (by simp only [fpOf, idOf, Option.getD_some, Option.getD_none, Op.operands, Call.operands, V.idsL, V.ids, idsL_t, List.append_nil, List.nil_append, List.cons_append, List.toList_toArray, List.map_toArray, List.size_toArray, List.append_toArray, ev_tmp, ev_const, ev_func, upd_at, slots_cons, slots_nil, objs_cons, objs_nil, Nat.reduceLT, Nat.reduceEqDiff, Nat.reduceAdd, reduceIte, if_true, if_false, ofVal, ofS, noOb, reduceCtorEq, List.take_succ_cons, List.take_zero, List.drop_succ_cons, List.drop_zero, List.take_nil, List.drop_nil, List.nil_append, List.cons_append, List.append_nil, List.length_cons, List.length_nil, List.head?_cons, List.map_cons, List.map_nil, Nat.reduceAdd, Nat.zero_add, List.length_map, hget, Core.row_len, Core.take, List.length_map]; rfl) ?_
        refine r_loadN rfl yA29 yS29 (by conv => lhs; whnf) (by conv => lhs; whnf) (by simp only [hget, Core.row_len, Core.take, List.length_map, List.take_succ_cons, List.take_zero, List.drop_succ_cons, List.drop_zero, List.take_nil, List.drop_nil, List.nil_append, List.cons_append, List.append_nil, List.length_cons, List.length_nil, List.head?_cons, List.map_cons, List.map_nil, Nat.reduceAdd, Nat.zero_add, List.length_map]; omega) (by (try simp only [hget, Core.row_len, Core.take, List.length_map, List.take_succ_cons, List.take_zero, List.drop_succ_cons, List.drop_zero, List.take_nil, List.drop_nil, List.nil_append, List.cons_append, List.append_nil, List.length_cons, List.length_nil, List.head?_cons, List.map_cons, List.map_nil, Nat.reduceAdd, Nat.zero_add, List.length_map]); rfl) (by simp only [fpOf, idOf, Option.getD_some, Option.getD_none, Op.operands, Call.operands, V.idsL, V.ids, idsL_t, List.append_nil, List.nil_append, List.cons_append, List.toList_toArray, List.map_toArray, List.size_toArray, List.append_toArray, ev_tmp, ev_const, ev_func, upd_at, slots_cons, slots_nil, objs_cons, objs_nil, Nat.reduceLT, Nat.reduceEqDiff, Nat.reduceAdd, reduceIte, if_true, if_false, ofVal, ofS, noOb, reduceCtorEq, List.take_succ_cons, List.take_zero, List.drop_succ_cons, List.drop_zero, List.take_nil, List.drop_nil, List.nil_append, List.cons_append, List.append_nil, List.length_cons, List.length_nil, List.head?_cons, List.map_cons, List.map_nil, Nat.reduceAdd, Nat.zero_add, List.length_map, hget, Core.row_len, Core.take, List.length_map]; rfl) ?_
        refine r_pure [] rfl rfl rfl (by conv => lhs; whnf) (by simp only [hget, Core.row_len, Core.take, List.length_map, ev_tmp, ev_const, ev_func, upd_at, slots_cons, slots_nil, objs_cons, objs_nil, Nat.reduceLT, Nat.reduceEqDiff, Nat.reduceAdd, reduceIte, if_true, if_false, ofVal, ofS, noOb, reduceCtorEq, List.take_succ_cons, List.take_zero, List.drop_succ_cons, List.drop_zero, List.take_nil, List.drop_nil, List.nil_append, List.cons_append, List.append_nil, List.length_cons, List.length_nil, List.head?_cons, List.map_cons, List.map_nil, Nat.reduceAdd, Nat.zero_add, List.length_map, List.toList_toArray]; rfl) (by simp only [hget, Core.row_len, Core.take, List.length_map, fzU, ev_tmp, ev_const, ev_func, upd_at, slots_cons, slots_nil, objs_cons, objs_nil, Nat.reduceLT, Nat.reduceEqDiff, Nat.reduceAdd, reduceIte, if_true, if_false, ofVal, ofS, noOb, reduceCtorEq]; rfl) (by simp only [app]; rfl) (hkid) (by exact ⟨(by first | exact pass_id rfl | exact pass_id (ids_row _) | exact .inr (.inl ⟨_, rfl, rfl, by simp [fz]⟩) | exact .inr (.inr ⟨_, _, rfl, rfl, rfl, by simp [fz]⟩)), (by first | exact pass_id rfl | exact pass_id (ids_row _) | exact .inr (.inl ⟨_, rfl, rfl, by simp [fz]⟩) | exact .inr (.inr ⟨_, _, rfl, rfl, rfl, by simp [fz]⟩)), trivial⟩) (by simp only [fpOf, Op.operands, Call.operands, V.idsL, V.ids, idsL_t, List.append_nil, List.nil_append, List.cons_append, List.map_toArray, List.append_toArray, hget, Core.row_len, Core.take, List.length_map, ev_tmp, ev_const, ev_func, upd_at, slots_cons, slots_nil, objs_cons, objs_nil, Nat.reduceLT, Nat.reduceEqDiff, Nat.reduceAdd, reduceIte, if_true, if_false, ofVal, ofS, noOb, reduceCtorEq, List.take_succ_cons, List.take_zero, List.drop_succ_cons, List.drop_zero, List.take_nil, List.drop_nil, List.nil_append, List.cons_append, List.append_nil, List.length_cons, List.length_nil, List.head?_cons, List.map_cons, List.map_nil, Nat.reduceAdd, Nat.zero_add, List.length_map]; rfl) ?_
        refine r_un rfl (by conv => lhs; whnf) (by conv => lhs; whnf) (by simp only [fpOf, idOf, Option.getD_some, Option.getD_none, Op.operands, Call.operands, V.idsL, V.ids, idsL_t, List.append_nil, List.nil_append, List.cons_append, List.toList_toArray, List.map_toArray, List.size_toArray, List.append_toArray, ev_tmp, ev_const, ev_func, upd_at, slots_cons, slots_nil, objs_cons, objs_nil, Nat.reduceLT, Nat.reduceEqDiff, Nat.reduceAdd, reduceIte, if_true, if_false, ofVal, ofS, noOb, reduceCtorEq, List.take_succ_cons, List.take_zero, List.drop_succ_cons, List.drop_zero, List.take_nil, List.drop_nil, List.nil_append, List.cons_append, List.append_nil, List.length_cons, List.length_nil, List.head?_cons, List.map_cons, List.map_nil, Nat.reduceAdd, Nat.zero_add, List.length_map, hget, Core.row_len, Core.take, List.length_map]; rfl) ?_
        refine k_nilD (by simp only [List.reverse_cons, List.reverse_nil, List.nil_append, List.cons_append]; kernel_rfl) ?_
        refine k_seq ?_
        refine awp_cond rfl (fun hc => ?_) (fun hc => ?_)
        · exact absurd hc (by simp)
        · refine awp_skip ?_
          refine k_blk ?_
          refine k_seq ?_
          refine awp_region ?_
          refine r_move rfl (by conv => lhs; whnf) rfl ?_
          refine r_bin rfl (by conv => lhs; whnf) (by conv => lhs; whnf) (by simp only [hget, Core.row_len, Core.take, List.length_map, abin, reduceIte, ne_eq, decide_not, Bool.not_true, Bool.not_false]; rfl) rfl ?_
          refine r_assign rfl (by conv => lhs; whnf) rfl ?_
          refine k_nil ?_
          refine k_for (j + 1) hlt (by show l.length - (j + 1) < l.length - j; omega) ?_
          refine weak_to _ _ (fun k hk => absurd rfl (hC k hk)) ?_ trivial
          simp only [HasS, upd_at, slots_cons, reduceIte, Nat.reduceEqDiff, V.ids, List.not_mem_nil, false_imp_iff, implies_true, and_true]
          rw [IntWalk.i64_in _ (by omega)]
          simp [slots]
      · refine awp_exit ?_
        refine k_seq_exit ?_
        refine k_for_exit ?_
        refine k_blk_exit ?_
        refine k_seq ?_
        refine awp_seq ?_
        refine awp_region ?_
        refine r_assign rfl (by conv => lhs; whnf) rfl ?_
        refine k_nil ?_
        refine k_seq ?_
        refine awp_ret ?_
        refine k_fin ?_
        refine ends_pure [] (by simp only [Try.results32, resOf, List.length_map, ev_tmp, ev_const, ev_func, upd_at, slots_cons, slots_nil, objs_cons, objs_nil, Nat.reduceLT, Nat.reduceEqDiff, Nat.reduceAdd, reduceIte, if_true, if_false, ofVal, ofS, noOb, reduceCtorEq]; rfl) (by skip; exact ⟨give_id _, trivial⟩) (by simp [V.idsL, V.ids])
theorem eqCore_ok : ∀ (f : Core), T.wtL f.row ≤ 2 ^ 30 → AC Try.prog 17 [.ag (f.row.map .t), .ag (f.row.map .t)] noOb (vb true) noOb
  | (Core.mk kind id name n ids (Form.mk data_kind data_name data_n data_scopes data_kids) kids), hl => by
    rw [Core.row_mk] at hl ⊢
    simp only [T.wtL, T.wt, S.wt, T.wtR_ints, List.length_map] at hl
    refine AC_intro (rs := [_]) Try.func17 rfl (by kernel_rfl) (by simp [Try.ntmps17]) (by simp [noOb]) ?_
    intro C hC
    rw [Try.ntmps17]
    refine awp_seq ?_
    refine awp_region ?_
    refine r_box rfl (by conv => lhs; whnf) rfl (by conv => lhs; whnf) rfl rfl ?_
    refine r_box rfl (by conv => lhs; whnf) rfl (by conv => lhs; whnf) rfl rfl ?_
    refine r_assign rfl (by conv => lhs; whnf) rfl ?_
    refine k_nil ?_
    refine k_seq ?_
    refine awp_seq ?_
    refine awp_seq ?_
    refine awp_region ?_
    refine r_fieldAddr rfl yF29_0 (by conv => lhs; whnf) (by conv => lhs; whnf) rfl ?_
    refine r_load1 rfl yA3 (by conv => lhs; whnf) (by conv => lhs; whnf) (by (try simp only [List.take_succ_cons, List.take_zero, List.drop_succ_cons, List.drop_zero, List.take_nil, List.drop_nil, List.nil_append, List.cons_append, List.append_nil, List.length_cons, List.length_nil, List.head?_cons, List.map_cons, List.map_nil, Nat.reduceAdd, Nat.zero_add, List.length_map]); rfl) rfl ?_
    refine r_fieldAddr rfl yF29_0 (by conv => lhs; whnf) (by conv => lhs; whnf) rfl ?_
    refine r_load1 rfl yA3 (by conv => lhs; whnf) (by conv => lhs; whnf) (by (try simp only [List.take_succ_cons, List.take_zero, List.drop_succ_cons, List.drop_zero, List.take_nil, List.drop_nil, List.nil_append, List.cons_append, List.append_nil, List.length_cons, List.length_nil, List.head?_cons, List.map_cons, List.map_nil, Nat.reduceAdd, Nat.zero_add, List.length_map]); rfl) rfl ?_
    refine r_bin rfl (by conv => lhs; whnf) (by conv => lhs; whnf) (by simp only [abin, reduceIte, ne_eq, decide_not, Bool.not_true, Bool.not_false]; rfl) rfl ?_
    refine k_nil ?_
    refine k_seq ?_
    refine awp_cond rfl (fun hc1 => ?_) (fun hc1 => ?_)
    · exact absurd hc1 (by simp)
    refine awp_skip ?_
    refine k_seq ?_
    refine awp_seq ?_
    refine awp_seq ?_
    refine awp_region ?_
    refine r_fieldAddr rfl yF29_1 (by conv => lhs; whnf) (by conv => lhs; whnf) rfl ?_
    refine r_load1 rfl yA3 (by conv => lhs; whnf) (by conv => lhs; whnf) (by (try simp only [List.take_succ_cons, List.take_zero, List.drop_succ_cons, List.drop_zero, List.take_nil, List.drop_nil, List.nil_append, List.cons_append, List.append_nil, List.length_cons, List.length_nil, List.head?_cons, List.map_cons, List.map_nil, Nat.reduceAdd, Nat.zero_add, List.length_map]); rfl) rfl ?_
    refine r_fieldAddr rfl yF29_1 (by conv => lhs; whnf) (by conv => lhs; whnf) rfl ?_
    refine r_load1 rfl yA3 (by conv => lhs; whnf) (by conv => lhs; whnf) (by (try simp only [List.take_succ_cons, List.take_zero, List.drop_succ_cons, List.drop_zero, List.take_nil, List.drop_nil, List.nil_append, List.cons_append, List.append_nil, List.length_cons, List.length_nil, List.head?_cons, List.map_cons, List.map_nil, Nat.reduceAdd, Nat.zero_add, List.length_map]); rfl) rfl ?_
    refine r_bin rfl (by conv => lhs; whnf) (by conv => lhs; whnf) (by simp only [abin, reduceIte, ne_eq, decide_not, Bool.not_true, Bool.not_false]; rfl) rfl ?_
    refine k_nil ?_
    refine k_seq ?_
    refine awp_cond rfl (fun hc2 => ?_) (fun hc2 => ?_)
    · exact absurd hc2 (by simp)
    refine awp_skip ?_
    refine k_seq ?_
    refine awp_seq ?_
    refine awp_seq ?_
    refine awp_region ?_
    refine r_fieldAddr rfl yF29_2 (by conv => lhs; whnf) (by conv => lhs; whnf) rfl ?_
    refine r_load1 rfl yA9 (by conv => lhs; whnf) (by conv => lhs; whnf) (by (try simp only [List.take_succ_cons, List.take_zero, List.drop_succ_cons, List.drop_zero, List.take_nil, List.drop_nil, List.nil_append, List.cons_append, List.append_nil, List.length_cons, List.length_nil, List.head?_cons, List.map_cons, List.map_nil, Nat.reduceAdd, Nat.zero_add, List.length_map]); rfl) rfl ?_
    refine r_fieldAddr rfl yF29_2 (by conv => lhs; whnf) (by conv => lhs; whnf) rfl ?_
    refine r_load1 rfl yA9 (by conv => lhs; whnf) (by conv => lhs; whnf) (by (try simp only [List.take_succ_cons, List.take_zero, List.drop_succ_cons, List.drop_zero, List.take_nil, List.drop_nil, List.nil_append, List.cons_append, List.append_nil, List.length_cons, List.length_nil, List.head?_cons, List.map_cons, List.map_nil, Nat.reduceAdd, Nat.zero_add, List.length_map]); rfl) rfl ?_
    refine r_bin rfl (by conv => lhs; whnf) (by conv => lhs; whnf) (by simp only [abin, reduceIte, ne_eq, decide_not, Bool.not_true, Bool.not_false]; rfl) rfl ?_
    refine k_nil ?_
    refine k_seq ?_
    refine awp_cond rfl (fun hc3 => ?_) (fun hc3 => ?_)
    · exact absurd hc3 (by simp)
    refine awp_skip ?_
    refine k_seq ?_
    refine awp_seq ?_
    refine awp_seq ?_
    refine awp_region ?_
    refine r_fieldAddr rfl yF29_3 (by conv => lhs; whnf) (by conv => lhs; whnf) rfl ?_
    refine r_load1 rfl yA3 (by conv => lhs; whnf) (by conv => lhs; whnf) (by (try simp only [List.take_succ_cons, List.take_zero, List.drop_succ_cons, List.drop_zero, List.take_nil, List.drop_nil, List.nil_append, List.cons_append, List.append_nil, List.length_cons, List.length_nil, List.head?_cons, List.map_cons, List.map_nil, Nat.reduceAdd, Nat.zero_add, List.length_map]); rfl) rfl ?_
    refine r_fieldAddr rfl yF29_3 (by conv => lhs; whnf) (by conv => lhs; whnf) rfl ?_
    refine r_load1 rfl yA3 (by conv => lhs; whnf) (by conv => lhs; whnf) (by (try simp only [List.take_succ_cons, List.take_zero, List.drop_succ_cons, List.drop_zero, List.take_nil, List.drop_nil, List.nil_append, List.cons_append, List.append_nil, List.length_cons, List.length_nil, List.head?_cons, List.map_cons, List.map_nil, Nat.reduceAdd, Nat.zero_add, List.length_map]); rfl) rfl ?_
    refine r_bin rfl (by conv => lhs; whnf) (by conv => lhs; whnf) (by simp only [abin, reduceIte, ne_eq, decide_not, Bool.not_true, Bool.not_false]; rfl) rfl ?_
    refine k_nil ?_
    refine k_seq ?_
    refine awp_cond rfl (fun hc4 => ?_) (fun hc4 => ?_)
    · exact absurd hc4 (by simp)
    refine awp_skip ?_
    refine k_seq ?_
    refine awp_seq ?_
    refine awp_seq ?_
    refine awp_region ?_
    refine r_fieldAddr rfl yF29_4 (by conv => lhs; whnf) (by conv => lhs; whnf) rfl ?_
    refine r_load1 rfl yA23 (by conv => lhs; whnf) (by conv => lhs; whnf) (by (try simp only [List.take_succ_cons, List.take_zero, List.drop_succ_cons, List.drop_zero, List.take_nil, List.drop_nil, List.nil_append, List.cons_append, List.append_nil, List.length_cons, List.length_nil, List.head?_cons, List.map_cons, List.map_nil, Nat.reduceAdd, Nat.zero_add, List.length_map]); rfl) rfl ?_
    refine r_fieldAddr rfl yF29_4 (by conv => lhs; whnf) (by conv => lhs; whnf) rfl ?_
    refine r_load1 rfl yA23 (by conv => lhs; whnf) (by conv => lhs; whnf) (by (try simp only [List.take_succ_cons, List.take_zero, List.drop_succ_cons, List.drop_zero, List.take_nil, List.drop_nil, List.nil_append, List.cons_append, List.append_nil, List.length_cons, List.length_nil, List.head?_cons, List.map_cons, List.map_nil, Nat.reduceAdd, Nat.zero_add, List.length_map]); rfl) rfl ?_
    have hk5 := eqIntS_ok ids (by omega)
    refine r_pure [] rfl rfl rfl (by conv => lhs; whnf) (by simp only [ev_tmp, ev_const, ev_func, upd_at, slots_cons, slots_nil, objs_cons, objs_nil, Nat.reduceLT, Nat.reduceEqDiff, Nat.reduceAdd, reduceIte, if_true, if_false, ofVal, ofS, noOb, reduceCtorEq, List.take_succ_cons, List.take_zero, List.drop_succ_cons, List.drop_zero, List.take_nil, List.drop_nil, List.nil_append, List.cons_append, List.append_nil, List.length_cons, List.length_nil, List.head?_cons, List.map_cons, List.map_nil, Nat.reduceAdd, Nat.zero_add, List.length_map, List.toList_toArray]; rfl) (by simp only [fzU, ev_tmp, ev_const, ev_func, upd_at, slots_cons, slots_nil, objs_cons, objs_nil, Nat.reduceLT, Nat.reduceEqDiff, Nat.reduceAdd, reduceIte, if_true, if_false, ofVal, ofS, noOb, reduceCtorEq]; rfl) (by simp only [app]; rfl) (hk5) (by exact ⟨(by first | exact pass_id rfl | exact pass_id (ids_row _) | exact .inr (.inl ⟨_, rfl, rfl, by simp [fz]⟩) | exact .inr (.inr ⟨_, _, rfl, rfl, rfl, by simp [fz]⟩)), (by first | exact pass_id rfl | exact pass_id (ids_row _) | exact .inr (.inl ⟨_, rfl, rfl, by simp [fz]⟩) | exact .inr (.inr ⟨_, _, rfl, rfl, rfl, by simp [fz]⟩)), trivial⟩) rfl ?_
    refine r_un rfl (by conv => lhs; whnf) (by conv => lhs; whnf) rfl ?_
    refine k_nil ?_
    refine k_seq ?_
    refine awp_cond rfl (fun hc5 => ?_) (fun hc5 => ?_)
    · exact absurd hc5 (by simp)
    refine awp_skip ?_
    refine k_seq ?_
    refine awp_seq ?_
    refine awp_seq ?_
    refine awp_region ?_
    refine r_fieldAddr rfl yF29_5 (by conv => lhs; whnf) (by conv => lhs; whnf) rfl ?_
    refine r_loadN rfl yA26 yS26 (by conv => lhs; whnf) (by conv => lhs; whnf) (by simp only [List.take_succ_cons, List.take_zero, List.drop_succ_cons, List.drop_zero, List.take_nil, List.drop_nil, List.nil_append, List.cons_append, List.append_nil, List.length_cons, List.length_nil, List.head?_cons, List.map_cons, List.map_nil, Nat.reduceAdd, Nat.zero_add, List.length_map]; omega) (by (try simp only [List.take_succ_cons, List.take_zero, List.drop_succ_cons, List.drop_zero, List.take_nil, List.drop_nil, List.nil_append, List.cons_append, List.append_nil, List.length_cons, List.length_nil, List.head?_cons, List.map_cons, List.map_nil, Nat.reduceAdd, Nat.zero_add, List.length_map]); rfl) rfl ?_
    refine r_fieldAddr rfl yF29_5 (by conv => lhs; whnf) (by conv => lhs; whnf) rfl ?_
    refine r_loadN rfl yA26 yS26 (by conv => lhs; whnf) (by conv => lhs; whnf) (by simp only [List.take_succ_cons, List.take_zero, List.drop_succ_cons, List.drop_zero, List.take_nil, List.drop_nil, List.nil_append, List.cons_append, List.append_nil, List.length_cons, List.length_nil, List.head?_cons, List.map_cons, List.map_nil, Nat.reduceAdd, Nat.zero_add, List.length_map]; omega) (by (try simp only [List.take_succ_cons, List.take_zero, List.drop_succ_cons, List.drop_zero, List.take_nil, List.drop_nil, List.nil_append, List.cons_append, List.append_nil, List.length_cons, List.length_nil, List.head?_cons, List.map_cons, List.map_nil, Nat.reduceAdd, Nat.zero_add, List.length_map]); rfl) rfl ?_
    have hk6 := eqForm_ok (Form.mk data_kind data_name data_n data_scopes data_kids) (by rw [Form.row_mk]; simp only [T.wtL, T.wt, S.wt, T.wtR_ints, List.length_map]; omega)
    rw [Form.row_mk] at hk6
    refine r_pure [] rfl rfl rfl (by conv => lhs; whnf) (by simp only [ev_tmp, ev_const, ev_func, upd_at, slots_cons, slots_nil, objs_cons, objs_nil, Nat.reduceLT, Nat.reduceEqDiff, Nat.reduceAdd, reduceIte, if_true, if_false, ofVal, ofS, noOb, reduceCtorEq, List.take_succ_cons, List.take_zero, List.drop_succ_cons, List.drop_zero, List.take_nil, List.drop_nil, List.nil_append, List.cons_append, List.append_nil, List.length_cons, List.length_nil, List.head?_cons, List.map_cons, List.map_nil, Nat.reduceAdd, Nat.zero_add, List.length_map, List.toList_toArray]; rfl) (by simp only [fzU, ev_tmp, ev_const, ev_func, upd_at, slots_cons, slots_nil, objs_cons, objs_nil, Nat.reduceLT, Nat.reduceEqDiff, Nat.reduceAdd, reduceIte, if_true, if_false, ofVal, ofS, noOb, reduceCtorEq]; rfl) (by simp only [app]; rfl) (hk6) (by exact ⟨(by first | exact pass_id rfl | exact pass_id (ids_row _) | exact .inr (.inl ⟨_, rfl, rfl, by simp [fz]⟩) | exact .inr (.inr ⟨_, _, rfl, rfl, rfl, by simp [fz]⟩)), (by first | exact pass_id rfl | exact pass_id (ids_row _) | exact .inr (.inl ⟨_, rfl, rfl, by simp [fz]⟩) | exact .inr (.inr ⟨_, _, rfl, rfl, rfl, by simp [fz]⟩)), trivial⟩) rfl ?_
    refine r_un rfl (by conv => lhs; whnf) (by conv => lhs; whnf) rfl ?_
    refine k_nil ?_
    refine k_seq ?_
    refine awp_cond rfl (fun hc6 => ?_) (fun hc6 => ?_)
    · exact absurd hc6 (by simp)
    refine awp_skip ?_
    refine k_seq ?_
    refine awp_seq ?_
    refine awp_seq ?_
    refine awp_region ?_
    refine r_fieldAddr rfl yF29_6 (by conv => lhs; whnf) (by conv => lhs; whnf) rfl ?_
    refine r_load1 rfl yA27 (by conv => lhs; whnf) (by conv => lhs; whnf) (by (try simp only [List.take_succ_cons, List.take_zero, List.drop_succ_cons, List.drop_zero, List.take_nil, List.drop_nil, List.nil_append, List.cons_append, List.append_nil, List.length_cons, List.length_nil, List.head?_cons, List.map_cons, List.map_nil, Nat.reduceAdd, Nat.zero_add, List.length_map]); rfl) rfl ?_
    refine r_fieldAddr rfl yF29_6 (by conv => lhs; whnf) (by conv => lhs; whnf) rfl ?_
    refine r_load1 rfl yA27 (by conv => lhs; whnf) (by conv => lhs; whnf) (by (try simp only [List.take_succ_cons, List.take_zero, List.drop_succ_cons, List.drop_zero, List.take_nil, List.drop_nil, List.nil_append, List.cons_append, List.append_nil, List.length_cons, List.length_nil, List.head?_cons, List.map_cons, List.map_nil, Nat.reduceAdd, Nat.zero_add, List.length_map]); rfl) rfl ?_
    have hk7 := eqCoreS_of kids (fun k hk => eqCore_ok k) (by simp only [T.wt, List.length_map]; omega)
    refine r_pure [] rfl rfl rfl (by conv => lhs; whnf) (by simp only [ev_tmp, ev_const, ev_func, upd_at, slots_cons, slots_nil, objs_cons, objs_nil, Nat.reduceLT, Nat.reduceEqDiff, Nat.reduceAdd, reduceIte, if_true, if_false, ofVal, ofS, noOb, reduceCtorEq, List.take_succ_cons, List.take_zero, List.drop_succ_cons, List.drop_zero, List.take_nil, List.drop_nil, List.nil_append, List.cons_append, List.append_nil, List.length_cons, List.length_nil, List.head?_cons, List.map_cons, List.map_nil, Nat.reduceAdd, Nat.zero_add, List.length_map, List.toList_toArray]; rfl) (by simp only [fzU, ev_tmp, ev_const, ev_func, upd_at, slots_cons, slots_nil, objs_cons, objs_nil, Nat.reduceLT, Nat.reduceEqDiff, Nat.reduceAdd, reduceIte, if_true, if_false, ofVal, ofS, noOb, reduceCtorEq]; rfl) (by simp only [app]; rfl) (hk7) (by exact ⟨(by first | exact pass_id rfl | exact pass_id (ids_row _) | exact .inr (.inl ⟨_, rfl, rfl, by simp [fz]⟩) | exact .inr (.inr ⟨_, _, rfl, rfl, rfl, by simp [fz]⟩)), (by first | exact pass_id rfl | exact pass_id (ids_row _) | exact .inr (.inl ⟨_, rfl, rfl, by simp [fz]⟩) | exact .inr (.inr ⟨_, _, rfl, rfl, rfl, by simp [fz]⟩)), trivial⟩) rfl ?_
    refine r_un rfl (by conv => lhs; whnf) (by conv => lhs; whnf) rfl ?_
    refine k_nil ?_
    refine k_seq ?_
    refine awp_cond rfl (fun hc7 => ?_) (fun hc7 => ?_)
    · exact absurd hc7 (by simp)
    refine awp_skip ?_
    refine k_seq ?_
    refine awp_seq ?_
    refine awp_region ?_
    refine r_assign rfl (by conv => lhs; whnf) rfl ?_
    refine k_nil ?_
    refine k_seq ?_
    refine awp_ret ?_
    refine k_fin ?_
    refine ends_pure [] (by simp only [Try.results17, resOf, List.length_map, ev_tmp, ev_const, ev_func, upd_at, slots_cons, slots_nil, objs_cons, objs_nil, Nat.reduceLT, Nat.reduceEqDiff, Nat.reduceAdd, reduceIte, if_true, if_false, ofVal, ofS, noOb, reduceCtorEq]; rfl) (by skip; exact ⟨give_id _, trivial⟩) (by simp [V.idsL, V.ids])
termination_by f => SizeOf.sizeOf f
decreasing_by (have := List.sizeOf_lt_of_mem hk; simp only [Core.mk.sizeOf_spec]; omega)
end Go.Abs
