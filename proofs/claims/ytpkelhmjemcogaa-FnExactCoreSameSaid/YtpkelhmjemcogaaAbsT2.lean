/- A part of the proof: contracts of the functions that the law calls, on pure values. -/
import Derived.Test.YtpkelhmjemcogaaAbsT1
set_option linter.unusedSimpArgs false
set_option maxHeartbeats 4000000
set_option linter.unusedVariables false
namespace Go.Abs
open Go.Proofs

mutual
def Core.size : Core → Nat
  | .mk _ _ _ _ _ _ kids => 1 + Core.sizes kids
def Core.sizes : List Core → Nat
  | [] => 0
  | f :: fs => f.size + Core.sizes fs
end
theorem Core.sizes_append (l r : List Core) : Core.sizes (l ++ r) = Core.sizes l + Core.sizes r := by
  induction l with
  | nil => simp [Core.sizes]
  | cons x l ih => simp [Core.sizes, ih]; omega
theorem Core.sizes_succ (l : List Core) (j : Nat) (h : j < l.length) : Core.sizes (l.take (j + 1)) = Core.sizes (l.take j) + l[j].size := by
  rw [List.take_succ_eq_append_getElem h, Core.sizes_append]; simp [Core.sizes]
theorem Core.sizes_take (l : List Core) (j : Nat) : Core.sizes (l.take j) ≤ Core.sizes l := by
  have := Core.sizes_append (l.take j) (l.drop j)
  rw [List.take_append_drop] at this; omega
mutual
theorem Core.size_wt : ∀ (c : Core), c.size ≤ 1 + T.wtL c.row
  | .mk kind id name n ids (.mk dk dn dnn ds dkids) kids => by
    have := Core.sizes_wt kids
    rw [Core.size, Core.row_mk]; simp only [T.wtL, T.wt, S.wt, List.length_map]; omega
theorem Core.sizes_wt : ∀ (l : List Core), Core.sizes l ≤ l.length + T.wtR (l.map Core.row)
  | [] => by simp [Core.sizes]
  | c :: l => by
    have h1 := Core.size_wt c
    have h2 := Core.sizes_wt l
    rw [Core.sizes, List.map_cons, T.wtR, List.length_cons]; omega
end
theorem yF29_6b : fldOf Try.prog 29 6 = some (10, 27) := by kernel_rfl
theorem yA27b : aggOf Try.prog 27 = some false := by kernel_rfl
theorem yU27b : Try.prog.underlying 27 = some (.slice 29) := by kernel_rfl
theorem yE27b : elOf Try.prog 27 = some (29, 11) := by kernel_rfl
theorem yA29b : aggOf Try.prog 29 = some true := by kernel_rfl
theorem yS29b : szOf Try.prog 29 = some 11 := by kernel_rfl
theorem yZ29b : zcells Try.prog 29 = some [.t (.sc (.int .i64 0)), .t (.sc (.int .i64 0)), .t (.sc (.str ⟨#[]⟩)), .t (.sc (.int .i64 0)), .nl, .t (.sc (.int .i64 0)), .t (.sc (.str ⟨#[]⟩)), .t (.sc (.int .i64 0)), .nl, .nl, .nl] := by kernel_rfl
theorem coreSize_ok : ∀ (c : Core), T.wtL c.row ≤ 2 ^ 30 → AC Try.prog 12 [.ag (c.row.map .t)] noOb (vi c.size) noOb
  | (Core.mk kind id name n ids (Form.mk data_kind data_name data_n data_scopes data_kids) kids), hl => by
    have hsz := Core.sizes_wt kids
    rw [Core.row_mk] at hl ⊢
    simp only [T.wtL, T.wt, S.wt, T.wtR_ints, List.length_map] at hl
    have hcs : ((Core.size (Core.mk kind id name n ids (Form.mk data_kind data_name data_n data_scopes data_kids) kids) : Nat) : Int) = 1 + (Core.sizes kids : Int) := by rw [Core.size]; push_cast; rfl
    rw [hcs]
    refine AC_intro (rs := [_]) Try.func12 rfl (by kernel_rfl) (by simp [Try.ntmps12]) (by simp [noOb]) ?_
    intro C hC
    rw [Try.ntmps12]
    refine awp_seq ?_
    refine awp_region ?_
    refine r_box rfl (by conv => lhs; whnf) rfl (by conv => lhs; whnf) rfl rfl ?_
    refine r_assign rfl (by conv => lhs; whnf) rfl ?_
    refine k_nil ?_
    refine k_seq ?_
    refine awp_seq ?_
    refine awp_region ?_
    refine r_assign rfl (by conv => lhs; whnf) rfl ?_
    refine k_nil ?_
    refine k_seq ?_
    refine awp_seq ?_
    refine awp_seq ?_
    refine awp_region ?_
    refine r_fieldAddr rfl yF29_6b (by conv => lhs; whnf) (by conv => lhs; whnf) rfl ?_
    refine r_load1 rfl yA27b (by conv => lhs; whnf) (by conv => lhs; whnf) (by (try simp only [List.length_map, List.take_succ_cons, List.take_zero, List.drop_succ_cons, List.drop_zero, List.take_nil, List.drop_nil, List.nil_append, List.cons_append, List.append_nil, List.length_cons, List.length_nil, List.head?_cons, List.map_cons, List.map_nil, Nat.reduceAdd, Nat.zero_add, List.length_map]); rfl) rfl ?_
    refine r_len rfl yU27b (by conv => lhs; whnf) (by conv => lhs; whnf) rfl ?_
    refine r_move rfl (by conv => lhs; whnf) rfl ?_
    refine k_nil ?_
    refine k_seq ?_
    refine awp_block ?_
    refine awp_for (fun j : Nat => kids.length - j) (fun j => [(7, .t (.sl (kids.map Core.row))), (8, vi kids.length), (3, vi (1 + Core.sizes (kids.take j))), (9, vi j)]) (fun _ => []) (fun j => j ≤ kids.length) 0 (Nat.zero_le _) ?_ ?_
    · refine weak_to _ _ (fun k hk => absurd rfl (hC k hk)) ?_ ?_
      · simp only [HasS, upd_at, reduceIte, Nat.reduceEqDiff, V.ids, List.mem_cons, List.not_mem_nil, false_imp_iff, implies_true, and_true, List.map_cons, List.map_nil, List.take_zero, Core.sizes]
        simp [slots]
      · trivial
    · intro j hj
      refine awp_seq ?_
      refine awp_region ?_
      refine r_bin rfl (by conv => lhs; whnf) (by conv => lhs; whnf) (by simp only [List.length_map, abin, reduceIte, ne_eq, decide_not, Bool.not_true, Bool.not_false]; rfl) rfl ?_
      refine k_nil ?_
      refine k_seq ?_
      refine awp_seq ?_
      refine awp_cond rfl (fun hc => ?_) (fun hc => ?_)
      · have hlt : j < kids.length := by have := of_decide_eq_true hc; omega
        have hget := map_get Core.row kids j hlt
        have hle := T.wtR_le Core.row kids (j + 1)
        have hsucc := T.wtR_succ Core.row kids j hlt
        have hss := Core.sizes_succ kids j hlt
        have hst := Core.sizes_take kids (j + 1)
        have hkid := coreSize_ok kids[j] (by omega)
        clear hc
        refine awp_skip ?_
        refine k_seq ?_
        refine awp_seq ?_
        refine awp_block ?_
        refine awp_seq ?_
        refine awp_region ?_
        refine r_indexAddr rfl yE27b (by conv => lhs; whnf) (by conv => lhs; whnf) (by omega) (by simp only [hget, Core.row_len, Core.take, List.length_map, indexP, ev_tmp, ev_const, ev_func, upd_at, slots_cons, slots_nil, objs_cons, objs_nil, Nat.reduceLT, Nat.reduceEqDiff, Nat.reduceAdd, reduceIte, if_true, if_false, ofVal, ofS, noOb, reduceCtorEq]; rfl) rfl ?_
        refine r_loadN rfl yA29b yS29b (by conv => lhs; whnf) (by conv => lhs; whnf) (by simp only [hget, Core.row_len, Core.take, List.length_map, List.take_succ_cons, List.take_zero, List.drop_succ_cons, List.drop_zero, List.take_nil, List.drop_nil, List.nil_append, List.cons_append, List.append_nil, List.length_cons, List.length_nil, List.head?_cons, List.map_cons, List.map_nil, Nat.reduceAdd, Nat.zero_add, List.length_map]; omega) (by (try simp only [hget, Core.row_len, Core.take, List.length_map, List.take_succ_cons, List.take_zero, List.drop_succ_cons, List.drop_zero, List.take_nil, List.drop_nil, List.nil_append, List.cons_append, List.append_nil, List.length_cons, List.length_nil, List.head?_cons, List.map_cons, List.map_nil, Nat.reduceAdd, Nat.zero_add, List.length_map]); rfl) rfl ?_
        refine r_alloc rfl yZ29b rfl rfl ?_
        refine r_storeB rfl (by conv => lhs; whnf) (by conv => lhs; whnf) (by conv => lhs; whnf) (by conv => lhs; whnf) (by first | rfl | simp only [hget, Core.row_len, Core.take, List.length_map, oneAll_t]) (by rw [yS29b]; simp only [hget, Core.row_len, Core.take, List.length_map, List.take_succ_cons, List.take_zero, List.drop_succ_cons, List.drop_zero, List.take_nil, List.drop_nil, List.nil_append, List.cons_append, List.append_nil, List.length_cons, List.length_nil, List.head?_cons, List.map_cons, List.map_nil, Nat.reduceAdd, Nat.zero_add, List.length_map]) (by simp only [hget, Core.row_len, Core.take, List.length_map, List.take_succ_cons, List.take_zero, List.drop_succ_cons, List.drop_zero, List.take_nil, List.drop_nil, List.nil_append, List.cons_append, List.append_nil, List.length_cons, List.length_nil, List.head?_cons, List.map_cons, List.map_nil, Nat.reduceAdd, Nat.zero_add, List.length_map]; omega) (splice_all (by simp only [hget, Core.row_len, Core.take, List.length_map, List.take_succ_cons, List.take_zero, List.drop_succ_cons, List.drop_zero, List.take_nil, List.drop_nil, List.nil_append, List.cons_append, List.append_nil, List.length_cons, List.length_nil, List.head?_cons, List.map_cons, List.map_nil, Nat.reduceAdd, Nat.zero_add, List.length_map]; omega)) rfl ?_
        refine k_nil ?_
        refine k_seq ?_
        refine awp_region ?_
        refine r_move rfl (by conv => lhs; whnf) rfl ?_
        refine r_loadN rfl yA29b yS29b (by conv => lhs; whnf) (by conv => lhs; whnf) (by simp only [hget, Core.row_len, Core.take, List.length_map, List.take_succ_cons, List.take_zero, List.drop_succ_cons, List.drop_zero, List.take_nil, List.drop_nil, List.nil_append, List.cons_append, List.append_nil, List.length_cons, List.length_nil, List.head?_cons, List.map_cons, List.map_nil, Nat.reduceAdd, Nat.zero_add, List.length_map]; omega) (by (try simp only [hget, Core.row_len, Core.take, List.length_map, List.take_succ_cons, List.take_zero, List.drop_succ_cons, List.drop_zero, List.take_nil, List.drop_nil, List.nil_append, List.cons_append, List.append_nil, List.length_cons, List.length_nil, List.head?_cons, List.map_cons, List.map_nil, Nat.reduceAdd, Nat.zero_add, List.length_map]); rfl) rfl ?_
        refine r_pure [] rfl rfl rfl (by conv => lhs; whnf) (by simp only [hget, Core.row_len, Core.take, List.length_map, ev_tmp, ev_const, ev_func, upd_at, slots_cons, slots_nil, objs_cons, objs_nil, Nat.reduceLT, Nat.reduceEqDiff, Nat.reduceAdd, reduceIte, if_true, if_false, ofVal, ofS, noOb, reduceCtorEq, List.take_succ_cons, List.take_zero, List.drop_succ_cons, List.drop_zero, List.take_nil, List.drop_nil, List.nil_append, List.cons_append, List.append_nil, List.length_cons, List.length_nil, List.head?_cons, List.map_cons, List.map_nil, Nat.reduceAdd, Nat.zero_add, List.length_map, List.toList_toArray]; rfl) (by simp only [hget, Core.row_len, Core.take, List.length_map, fzU, ev_tmp, ev_const, ev_func, upd_at, slots_cons, slots_nil, objs_cons, objs_nil, Nat.reduceLT, Nat.reduceEqDiff, Nat.reduceAdd, reduceIte, if_true, if_false, ofVal, ofS, noOb, reduceCtorEq]; rfl) (by simp only [app]; rfl) (hkid) (by exact ⟨(by first | exact pass_id rfl | exact pass_id (ids_row _) | exact .inr (.inl ⟨_, rfl, rfl, by simp [fz]⟩) | exact .inr (.inr ⟨_, _, rfl, rfl, rfl, by simp [fz]⟩)), trivial⟩) rfl ?_
        refine r_bin rfl (by conv => lhs; whnf) (by conv => lhs; whnf) (by simp only [hget, Core.row_len, Core.take, List.length_map, abin, reduceIte, ne_eq, decide_not, Bool.not_true, Bool.not_false]; rfl) rfl ?_
        refine r_assign rfl (by conv => lhs; whnf) rfl ?_
        refine k_nil ?_
        refine k_blk ?_
        refine k_seq ?_
        refine awp_region ?_
        refine r_bin rfl (by conv => lhs; whnf) (by conv => lhs; whnf) (by simp only [hget, Core.row_len, Core.take, List.length_map, abin, reduceIte, ne_eq, decide_not, Bool.not_true, Bool.not_false]; rfl) rfl ?_
        refine r_move rfl (by conv => lhs; whnf) rfl ?_
        refine k_nil ?_
        refine k_for (j + 1) hlt (by show kids.length - (j + 1) < kids.length - j; omega) ?_
        refine weak_to _ _ (fun k hk => absurd rfl (hC k hk)) ?_ ?_
        · simp only [HasS, upd_at, slots_cons, reduceIte, Nat.reduceEqDiff, V.ids, List.mem_cons, List.not_mem_nil, false_imp_iff, implies_true, and_true, List.map_cons, List.map_nil]
          rw [hss, IntWalk.i64_in _ (by omega), IntWalk.i64_in _ (by omega)]
          simp [slots]
          try omega
        · trivial
      · have hje : j = kids.length := by have := of_decide_eq_false hc; omega
        subst hje
        rw [List.take_length]
        refine awp_exit ?_
        refine k_seq_exit ?_
        refine k_for_exit ?_
        refine k_blk_exit ?_
        refine k_seq ?_
        refine awp_seq ?_
        refine awp_region ?_
        refine r_move rfl (by conv => lhs; whnf) rfl ?_
        refine r_assign rfl (by conv => lhs; whnf) rfl ?_
        refine k_nil ?_
        refine k_seq ?_
        refine awp_ret ?_
        refine k_fin ?_
        refine ends_pure [] (by simp only [Try.results12, resOf, List.length_map, ev_tmp, ev_const, ev_func, upd_at, slots_cons, slots_nil, objs_cons, objs_nil, Nat.reduceLT, Nat.reduceEqDiff, Nat.reduceAdd, reduceIte, if_true, if_false, ofVal, ofS, noOb, reduceCtorEq]; rfl) (by skip; exact ⟨give_id _, trivial⟩) (by simp [V.idsL, V.ids])
termination_by c => SizeOf.sizeOf c
decreasing_by (have := List.sizeOf_lt_of_mem (List.getElem_mem hlt); simp only [Core.mk.sizeOf_spec]; omega)
theorem l6Count_ok : ∀ (c : Core), T.wtL c.row ≤ 2 ^ 30 → AC Try.prog 23 [.ag (c.row.map .t)] noOb (vi c.size) noOb
  | (Core.mk kind id name n ids (Form.mk data_kind data_name data_n data_scopes data_kids) kids), hl => by
    have hsz := Core.sizes_wt kids
    rw [Core.row_mk] at hl ⊢
    simp only [T.wtL, T.wt, S.wt, T.wtR_ints, List.length_map] at hl
    have hcs : ((Core.size (Core.mk kind id name n ids (Form.mk data_kind data_name data_n data_scopes data_kids) kids) : Nat) : Int) = 1 + (Core.sizes kids : Int) := by rw [Core.size]; push_cast; rfl
    rw [hcs]
    refine AC_intro (rs := [_]) Try.func23 rfl (by kernel_rfl) (by simp [Try.ntmps23]) (by simp [noOb]) ?_
    intro C hC
    rw [Try.ntmps23]
    refine awp_seq ?_
    refine awp_region ?_
    refine r_box rfl (by conv => lhs; whnf) rfl (by conv => lhs; whnf) rfl rfl ?_
    refine r_assign rfl (by conv => lhs; whnf) rfl ?_
    refine k_nil ?_
    refine k_seq ?_
    refine awp_seq ?_
    refine awp_region ?_
    refine r_assign rfl (by conv => lhs; whnf) rfl ?_
    refine k_nil ?_
    refine k_seq ?_
    refine awp_seq ?_
    refine awp_seq ?_
    refine awp_region ?_
    refine r_assign rfl (by conv => lhs; whnf) rfl ?_
    refine k_nil ?_
    refine k_seq ?_
    refine awp_block ?_
    refine awp_for (fun j : Nat => kids.length - j) (fun j => [(1, .rf 1 0), (3, vi (1 + Core.sizes (kids.take j))), (4, vi j)]) (fun _ => [(1, .box [.t (ti kind), .t (ti id), .t (tstr name), .t (ti n), .t (ints64 ids), .t (ti data_kind), .t (tstr data_name), .t (ti data_n), .t (ints64 data_scopes), .t (.sl (data_kids.map Form.row)), .t (.sl (kids.map Core.row))])]) (fun j => j ≤ kids.length) 0 (Nat.zero_le _) ?_ ?_
    · refine weak_to _ _ (fun k hk => absurd rfl (hC k hk)) ?_ ?_
      · simp only [HasS, upd_at, reduceIte, Nat.reduceEqDiff, V.ids, List.mem_cons, List.not_mem_nil, false_imp_iff, implies_true, and_true, List.map_cons, List.map_nil, List.take_zero, Core.sizes]
        simp [slots]
      · simp only [HasM, upd_at, reduceIte, Nat.reduceEqDiff, Ob.ids, List.not_mem_nil, false_imp_iff, implies_true, and_true, List.map_cons, List.map_nil, V.idsL, V.ids, List.append_nil]
    · intro j hj
      refine awp_seq ?_
      refine awp_seq ?_
      refine awp_region ?_
      refine r_move rfl (by conv => lhs; whnf) rfl ?_
      refine r_fieldAddr rfl yF29_6b (by conv => lhs; whnf) (by conv => lhs; whnf) rfl ?_
      refine r_load1 rfl yA27b (by conv => lhs; whnf) (by conv => lhs; whnf) (by (try simp only [List.length_map, List.take_succ_cons, List.take_zero, List.drop_succ_cons, List.drop_zero, List.take_nil, List.drop_nil, List.nil_append, List.cons_append, List.append_nil, List.length_cons, List.length_nil, List.head?_cons, List.map_cons, List.map_nil, Nat.reduceAdd, Nat.zero_add, List.length_map]); rfl) rfl ?_
      refine r_len rfl yU27b (by conv => lhs; whnf) (by conv => lhs; whnf) rfl ?_
      refine r_bin rfl (by conv => lhs; whnf) (by conv => lhs; whnf) (by simp only [List.length_map, abin, reduceIte, ne_eq, decide_not, Bool.not_true, Bool.not_false]; rfl) rfl ?_
      refine k_nil ?_
      refine k_seq ?_
      refine awp_cond rfl (fun hc => ?_) (fun hc => ?_)
      · have hlt : j < kids.length := by have := of_decide_eq_true hc; omega
        have hget := map_get Core.row kids j hlt
        have hle := T.wtR_le Core.row kids (j + 1)
        have hsucc := T.wtR_succ Core.row kids j hlt
        have hss := Core.sizes_succ kids j hlt
        have hst := Core.sizes_take kids (j + 1)
        have hkid := l6Count_ok kids[j] (by omega)
        clear hc
        refine awp_skip ?_
        refine k_seq ?_
        refine awp_seq ?_
        refine awp_block ?_
        refine awp_region ?_
        refine r_move rfl (by conv => lhs; whnf) rfl ?_
        refine r_fieldAddr rfl yF29_6b (by conv => lhs; whnf) (by conv => lhs; whnf) rfl ?_
        refine r_load1 rfl yA27b (by conv => lhs; whnf) (by conv => lhs; whnf) (by (try simp only [hget, Core.row_len, Core.take, List.length_map, List.take_succ_cons, List.take_zero, List.drop_succ_cons, List.drop_zero, List.take_nil, List.drop_nil, List.nil_append, List.cons_append, List.append_nil, List.length_cons, List.length_nil, List.head?_cons, List.map_cons, List.map_nil, Nat.reduceAdd, Nat.zero_add, List.length_map]); rfl) rfl ?_
        refine r_move rfl (by conv => lhs; whnf) rfl ?_
        refine r_indexAddr rfl yE27b (by conv => lhs; whnf) (by conv => lhs; whnf) (by omega) (by simp only [hget, Core.row_len, Core.take, List.length_map, indexP, ev_tmp, ev_const, ev_func, upd_at, slots_cons, slots_nil, objs_cons, objs_nil, Nat.reduceLT, Nat.reduceEqDiff, Nat.reduceAdd, reduceIte, if_true, if_false, ofVal, ofS, noOb, reduceCtorEq]; rfl) rfl ?_
        refine r_loadN rfl yA29b yS29b (by conv => lhs; whnf) (by conv => lhs; whnf) (by simp only [hget, Core.row_len, Core.take, List.length_map, List.take_succ_cons, List.take_zero, List.drop_succ_cons, List.drop_zero, List.take_nil, List.drop_nil, List.nil_append, List.cons_append, List.append_nil, List.length_cons, List.length_nil, List.head?_cons, List.map_cons, List.map_nil, Nat.reduceAdd, Nat.zero_add, List.length_map]; omega) (by (try simp only [hget, Core.row_len, Core.take, List.length_map, List.take_succ_cons, List.take_zero, List.drop_succ_cons, List.drop_zero, List.take_nil, List.drop_nil, List.nil_append, List.cons_append, List.append_nil, List.length_cons, List.length_nil, List.head?_cons, List.map_cons, List.map_nil, Nat.reduceAdd, Nat.zero_add, List.length_map]); rfl) rfl ?_
        refine r_pure [] rfl rfl rfl (by conv => lhs; whnf) (by simp only [hget, Core.row_len, Core.take, List.length_map, ev_tmp, ev_const, ev_func, upd_at, slots_cons, slots_nil, objs_cons, objs_nil, Nat.reduceLT, Nat.reduceEqDiff, Nat.reduceAdd, reduceIte, if_true, if_false, ofVal, ofS, noOb, reduceCtorEq, List.take_succ_cons, List.take_zero, List.drop_succ_cons, List.drop_zero, List.take_nil, List.drop_nil, List.nil_append, List.cons_append, List.append_nil, List.length_cons, List.length_nil, List.head?_cons, List.map_cons, List.map_nil, Nat.reduceAdd, Nat.zero_add, List.length_map, List.toList_toArray]; rfl) (by simp only [hget, Core.row_len, Core.take, List.length_map, fzU, ev_tmp, ev_const, ev_func, upd_at, slots_cons, slots_nil, objs_cons, objs_nil, Nat.reduceLT, Nat.reduceEqDiff, Nat.reduceAdd, reduceIte, if_true, if_false, ofVal, ofS, noOb, reduceCtorEq]; rfl) (by simp only [app]; rfl) (hkid) (by exact ⟨(by first | exact pass_id rfl | exact pass_id (ids_row _) | exact .inr (.inl ⟨_, rfl, rfl, by simp [fz]⟩) | exact .inr (.inr ⟨_, _, rfl, rfl, rfl, by simp [fz]⟩)), trivial⟩) rfl ?_
        refine r_bin rfl (by conv => lhs; whnf) (by conv => lhs; whnf) (by simp only [hget, Core.row_len, Core.take, List.length_map, abin, reduceIte, ne_eq, decide_not, Bool.not_true, Bool.not_false]; rfl) rfl ?_
        refine r_assign rfl (by conv => lhs; whnf) rfl ?_
        refine k_nil ?_
        refine k_blk ?_
        refine k_seq ?_
        refine awp_region ?_
        refine r_move rfl (by conv => lhs; whnf) rfl ?_
        refine r_bin rfl (by conv => lhs; whnf) (by conv => lhs; whnf) (by simp only [hget, Core.row_len, Core.take, List.length_map, abin, reduceIte, ne_eq, decide_not, Bool.not_true, Bool.not_false]; rfl) rfl ?_
        refine r_assign rfl (by conv => lhs; whnf) rfl ?_
        refine k_nil ?_
        refine k_for (j + 1) hlt (by show kids.length - (j + 1) < kids.length - j; omega) ?_
        refine weak_to _ _ (fun k hk => absurd rfl (hC k hk)) ?_ ?_
        · simp only [HasS, upd_at, slots_cons, reduceIte, Nat.reduceEqDiff, V.ids, List.mem_cons, List.not_mem_nil, false_imp_iff, implies_true, and_true, List.map_cons, List.map_nil]
          rw [hss, IntWalk.i64_in _ (by omega), IntWalk.i64_in _ (by omega)]
          simp [slots]
          try omega
        · simp only [HasM, upd_at, objs_cons, reduceIte, Nat.reduceEqDiff, Ob.ids, List.not_mem_nil, false_imp_iff, implies_true, and_true, List.map_cons, List.map_nil, V.idsL, V.ids, List.append_nil]
      · have hje : j = kids.length := by have := of_decide_eq_false hc; omega
        subst hje
        rw [List.take_length]
        refine awp_exit ?_
        refine k_seq_exit ?_
        refine k_for_exit ?_
        refine k_blk_exit ?_
        refine k_seq ?_
        refine awp_seq ?_
        refine awp_region ?_
        refine r_move rfl (by conv => lhs; whnf) rfl ?_
        refine r_assign rfl (by conv => lhs; whnf) rfl ?_
        refine k_nil ?_
        refine k_seq ?_
        refine awp_ret ?_
        refine k_fin ?_
        refine ends_pure [] (by simp only [Try.results23, resOf, List.length_map, ev_tmp, ev_const, ev_func, upd_at, slots_cons, slots_nil, objs_cons, objs_nil, Nat.reduceLT, Nat.reduceEqDiff, Nat.reduceAdd, reduceIte, if_true, if_false, ofVal, ofS, noOb, reduceCtorEq]; rfl) (by skip; exact ⟨give_id _, trivial⟩) (by simp [V.idsL, V.ids])
termination_by c => SizeOf.sizeOf c
decreasing_by (have := List.sizeOf_lt_of_mem (List.getElem_mem hlt); simp only [Core.mk.sizeOf_spec]; omega)
theorem specCoreSize_ok (c : Core) (hl : T.wtL c.row ≤ 2 ^ 30) : AC Try.prog 13 [.ag (c.row.map .t)] noOb (vi c.size) noOb := by
  refine AC_intro (rs := [_]) Try.func13 rfl (by kernel_rfl) (by simp [Try.ntmps13]) (by simp [noOb]) ?_
  intro C hC
  rw [Try.ntmps13]
  refine awp_seq ?_
  refine awp_region ?_
  refine r_box rfl (by conv => lhs; whnf) rfl (by conv => lhs; whnf) rfl rfl ?_
  refine r_assign rfl (by conv => lhs; whnf) rfl ?_
  refine k_nil ?_
  refine k_seq ?_
  refine awp_seq ?_
  refine awp_region ?_
  refine r_loadN rfl yA29b yS29b (by conv => lhs; whnf) (by conv => lhs; whnf) (by simp only [Core.take, Core.row_len, List.take_succ_cons, List.take_zero, List.drop_succ_cons, List.drop_zero, List.take_nil, List.drop_nil, List.nil_append, List.cons_append, List.append_nil, List.length_cons, List.length_nil, List.head?_cons, List.map_cons, List.map_nil, Nat.reduceAdd, Nat.zero_add, List.length_map]; omega) (by (try simp only [Core.take, Core.row_len, List.take_succ_cons, List.take_zero, List.drop_succ_cons, List.drop_zero, List.take_nil, List.drop_nil, List.nil_append, List.cons_append, List.append_nil, List.length_cons, List.length_nil, List.head?_cons, List.map_cons, List.map_nil, Nat.reduceAdd, Nat.zero_add, List.length_map]); rfl) rfl ?_
  refine r_pure [] rfl rfl rfl (by conv => lhs; whnf) (by simp only [Core.take, Core.row_len, ev_tmp, ev_const, ev_func, upd_at, slots_cons, slots_nil, objs_cons, objs_nil, Nat.reduceLT, Nat.reduceEqDiff, Nat.reduceAdd, reduceIte, if_true, if_false, ofVal, ofS, noOb, reduceCtorEq, List.take_succ_cons, List.take_zero, List.drop_succ_cons, List.drop_zero, List.take_nil, List.drop_nil, List.nil_append, List.cons_append, List.append_nil, List.length_cons, List.length_nil, List.head?_cons, List.map_cons, List.map_nil, Nat.reduceAdd, Nat.zero_add, List.length_map, List.toList_toArray]; rfl) (by simp only [Core.take, Core.row_len, fzU, ev_tmp, ev_const, ev_func, upd_at, slots_cons, slots_nil, objs_cons, objs_nil, Nat.reduceLT, Nat.reduceEqDiff, Nat.reduceAdd, reduceIte, if_true, if_false, ofVal, ofS, noOb, reduceCtorEq]; rfl) (by simp only [app]; rfl) (l6Count_ok c hl) (by exact ⟨(by first | exact pass_id rfl | exact pass_id (ids_row _) | exact .inr (.inl ⟨_, rfl, rfl, by simp [fz]⟩) | exact .inr (.inr ⟨_, _, rfl, rfl, rfl, by simp [fz]⟩)), trivial⟩) rfl ?_
  refine r_assign rfl (by conv => lhs; whnf) rfl ?_
  refine k_nil ?_
  refine k_seq ?_
  refine awp_ret ?_
  refine k_fin ?_
  refine ends_pure [] (by simp only [Try.results13, resOf, Core.take, Core.row_len, ev_tmp, ev_const, ev_func, upd_at, slots_cons, slots_nil, objs_cons, objs_nil, Nat.reduceLT, Nat.reduceEqDiff, Nat.reduceAdd, reduceIte, if_true, if_false, ofVal, ofS, noOb, reduceCtorEq]; rfl) (by skip; exact ⟨give_id _, trivial⟩) (by simp [V.idsL, V.ids])
end Go.Abs
