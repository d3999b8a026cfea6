/- A part of the proof: what the functions that the law calls answer, as pure values. -/
import Derived.Test.YtjjjnhpghhamkaaGreatK47fea1a30345
import Derived.Test.YtjjjnhpghhamkaaGreatK6a36b954c5f2
import Derived.Test.YtjjjnhpghhamkaaGreatKc94dc4464404
import Derived.Test.YtjjjnhpghhamkaaGreatKd12cb08badc5
import Derived.Test.YtjjjnhpghhamkaaGreatKdb01c44e443a
set_option linter.unusedSimpArgs false
set_option linter.unusedVariables false
section
set_option linter.unusedVariables false
set_option linter.unusedSimpArgs false
namespace Go.Abs
section
variable {bs : List Bind} {lits : List Form} {P F : Form} {xs tail : List Form} {pr dd : Form}
theorem cntD_all : ∀ {l : List Form}, (∀ x ∈ l, isDots x = false) → cntD l = 0
  | [], _ => rfl
  | y :: ys, h => by rw [cntD, h y (by simp), cond_false, cntD_all (fun x hx => h x (by simp [hx]))]
theorem cntD_app : ∀ (a b : List Form), cntD (a ++ b) = cntD a + cntD b
  | [], b => by simp [cntD]
  | x :: a, b => by rw [List.cons_append, cntD, cntD, cntD_app a b]; omega
theorem set_end {α : Type} (l : List α) (z v : α) : (l ++ [z]).set (l.length : Int).toNat v = l ++ [v] := by
  rw [Int.toNat_natCast, List.set_append_right _ _ (Nat.le_refl _), Nat.sub_self]; rfl
theorem idx_last {α : Type} (l : List α) (z : α) : idx (l ++ [z]) (l.length : Int) = some z := idx_nat (by simp)
theorem match_l9_tr (v11 : Int) (g34 : List Hit) (v49 : List Form) (g50 : Int) (vs : List (Form × Int)) (rows : List (List Hit)) (inner : List Hit) (b : Bool) (hi : inner.length = vs.length) (hr : rows.length ≤ 2 ^ 20) (hv : vs.length ≤ 2 ^ 20) {v : List Hit × Bool}
    (hK : Tr (fun m => m_impl_match_l8 m bs P lits F v11 g34 v49 (w64 (g50 + 1)) (rowH 0 vs (rows ++ [inner]))) v) (g51 : List Hit) (hg : g51.length = vs.length) :
    Tr (fun m => m_impl_match_l9 m bs P lits F v11 g34 v49 g50 g51 (inner, b) 0 (rowH 0 vs rows)) v := by
  have key := drop_ind vs (fun k zs => Tr (fun m => m_impl_match_l9 m bs P lits F v11 g34 v49 g50 g51 (inner, b) (k : Int) ((rowH 0 vs (rows ++ [inner])).take k ++ (rowH 0 vs rows).drop k)) v) ?_ ?_ 0 (Nat.zero_le _)
  · simpa using key
  · have e1 : (rowH 0 vs (rows ++ [inner])).take vs.length = rowH 0 vs (rows ++ [inner]) := List.take_of_length_le (by rw [rowH_length]; exact Nat.le_refl _)
    have e2 : (rowH 0 vs rows).drop vs.length = [] := List.drop_of_length_le (by rw [rowH_length]; exact Nat.le_refl _)
    rw [e1, e2, List.append_nil]
    exact Tr.step (fun m => by rw [m_impl_match_l9, hg, ltN_self, cond_false]) hK
  · intro k x zs hk hx hd ih
    have hl1 : (rowH 0 vs (rows ++ [inner])).length = vs.length := rowH_length _ _ _
    have hl2 : (rowH 0 vs rows).length = vs.length := rowH_length _ _ _
    have ht : ((rowH 0 vs (rows ++ [inner])).take k).length = k := by rw [List.length_take, hl1]; omega
    have g1 := rowH_get (k := 0) (rows := rows) hx
    have g2 := rowH_get (k := 0) (rows := rows ++ [inner]) hx
    rw [Nat.zero_add] at g1 g2
    have hget : ((rowH 0 vs (rows ++ [inner])).take k ++ (rowH 0 vs rows).drop k)[k]? = some (Hit.mk x.1 (x.2 + 1) form0 (rows.map fun r => r.getD k hit0)) := by
      rw [List.getElem?_append_right (by omega), ht, Nat.sub_self, List.getElem?_drop, Nat.add_zero]; exact g1
    have hin : inner[k]? = some (inner.getD k hit0) := by
      have : k < inner.length := by omega
      rw [List.getD_eq_getElem?_getD, List.getElem?_eq_getElem this]; rfl
    have hset : ((rowH 0 vs (rows ++ [inner])).take k ++ (rowH 0 vs rows).drop k).set (k : Int).toNat (Hit.mk x.1 (x.2 + 1) form0 ((rows.map fun r => r.getD k hit0) ++ [inner.getD k hit0])) = (rowH 0 vs (rows ++ [inner])).take (k + 1) ++ (rowH 0 vs rows).drop (k + 1) := by
      have h3 : (rowH 0 vs rows).drop k = Hit.mk x.1 (x.2 + 1) form0 (rows.map fun r => r.getD k hit0) :: (rowH 0 vs rows).drop (k + 1) := drop_get g1
      rw [Int.toNat_natCast, List.set_append_right _ _ (by omega), ht, Nat.sub_self, h3, List.set_cons_zero, List.take_add_one, g2, List.append_assoc]
      simp
    refine Tr.step (fun m => by rw [m_impl_match_l9, hg, ltN hk, cond_true, idx_nat hget, Option.bind_some, idx_nat hin, Option.bind_some]) ?_
    refine Tr.chk (decide_eq_true (by simp [Hit.many]; omega)) ?_
    refine Tr.eq (fun m => by rw [idx_last, Option.bind_some, Option.bind_some, w64_in (by omega), succN, set_end]) ?_
    simp only [Hit.name, Hit.depth, Hit.one, Hit.many]
    rw [hset]; exact ih
theorem match_l8_tr (hS : MatS bs lits P F) (hR : RowS P F xs pr dd tail) (g34 : List Hit) (v49 : List Form) (hv : ∀ f ∈ v49, f ∈ F.kids) (hvl : v49.length ≤ F.kids.length) (J : List Hit → List Hit × Bool)
    (hJ : ∀ rows, rows.length = v49.length → (∀ r ∈ rows, r.length = (pr.vd lits 0).length) → Tr (fun m => m_impl_match_j7 m bs P lits F ((xs.length + 1 : Nat) : Int) g34 (rowH 0 (pr.vd lits 0) rows)) (J (rowH 0 (pr.vd lits 0) rows))) :
    Tr (fun m => m_impl_match_l8 m bs P lits F ((xs.length + 1 : Nat) : Int) g34 v49 0 (rowH 0 (pr.vd lits 0) [])) (match allM (fun f => pr.mt bs lits f) v49 with
      | none => ([], false)
      | some rows => J (rowH 0 (pr.vd lits 0) rows)) := by
  have h1 := RowS.lens hS hR
  have h2 := hR.plen
  have hpm := List.mem_of_getElem? hR.at_pr
  have hpp : PatS pr := (hS.kid pr hpm).pat hR.row
  have hpw := Form.ws_mem hpm
  have hwp := hS.wp
  have hvd := Form.vd_len lits pr 0
  have key := drop_ind v49 (fun k zs => ∀ rows : List (List Hit), rows.length = k → (∀ r ∈ rows, r.length = (pr.vd lits 0).length) → Tr (fun m => m_impl_match_l8 m bs P lits F ((xs.length + 1 : Nat) : Int) g34 v49 (k : Int) (rowH 0 (pr.vd lits 0) rows)) (match allM (fun f => pr.mt bs lits f) zs with
      | none => ([], false)
      | some ys => J (rowH 0 (pr.vd lits 0) (rows ++ ys)))) ?_ ?_ 0 (Nat.zero_le _) [] rfl (fun r hr => by cases hr)
  · simpa using key
  · intro rows hr hl
    rw [allM]
    simp only [List.append_nil]
    exact Tr.step (fun m => by rw [m_impl_match_l8, ltN_self, cond_false]) (hJ rows hr hl)
  · intro k x zs hk hx hd ih rows hr hl
    refine Tr.step (fun m => by rw [m_impl_match_l8, ltN hk, cond_true, idx_nat hx, Option.bind_some, RowS.row_eq hS hR, idx_nat hR.at_pr, Option.bind_some]) ?_
    refine Tr.bind (hS.ih pr hpm hR.row x (hv x (List.mem_of_getElem? hx))) ?_
    rw [allM]
    cases hm : pr.mt bs lits x with
    | none => exact Tr.tt rfl Tr.val
    | some h =>
      have hlen := mt_len hpp hm
      refine Tr.ff rfl ?_
      refine Tr.eq (fun m => rfl) (match_l9_tr (bs := bs) (lits := lits) (P := P) (F := F) ((xs.length + 1 : Nat) : Int) g34 v49 (k : Int) (pr.vd lits 0) rows h true hlen (by omega) (by omega) ?_ _ (rowH_length _ _ _))
      refine Tr.eq (fun m => by rw [w64_in (by omega), succN]) ?_
      have := ih (rows ++ [h]) (by simp [hr]) (fun r hr' => by
        rcases List.mem_append.1 hr' with hr' | hr'
        · exact hl r hr'
        · rw [List.mem_singleton.1 hr']; exact hlen)
      cases ha : allM (fun f => pr.mt bs lits f) zs with
      | none => rw [ha] at this; exact this
      | some ys =>
        rw [ha] at this
        simp only [List.append_assoc, List.singleton_append] at this
        exact this
theorem match_l6_tr (v11 : Int) (g34 : List Hit) (vs : List (Form × Int)) (hw : ∀ v ∈ vs, v.1.w ≤ 2 ^ 30) (h0 : ∀ v ∈ vs, 0 ≤ v.2 ∧ v.2 ≤ 2 ^ 30) (hl : vs.length ≤ 2 ^ 20) {r : List Hit × Bool}
    (hK : Tr (fun m => m_impl_match_j5 m bs P lits F v11 g34 (rowH 0 vs [])) r) : Tr (fun m => m_impl_match_l6 m bs P lits F v11 g34 (vs.map (·.1), vs.map (·.2)) ([] : List Hit) 0) r := by
  have key := drop_ind vs (fun k zs => ∀ g : List Hit, g.length = k → g ++ rowH k zs [] = rowH 0 vs [] → Tr (fun m => m_impl_match_l6 m bs P lits F v11 g34 (vs.map (·.1), vs.map (·.2)) g (k : Int)) r) ?_ ?_ 0 (Nat.zero_le _) [] rfl (by rw [List.nil_append, List.drop_zero])
  · exact key
  · intro g hg he
    rw [rowH, List.append_nil] at he
    rw [he]
    exact Tr.step (fun m => by rw [m_impl_match_l6, List.length_map, ltN_self, cond_false]) hK
  · intro k v zs hk hx hd ih g hg he
    have hx1 : (vs.map (·.1))[k]? = some v.1 := by rw [List.getElem?_map, hx]; rfl
    have hx2 : (vs.map (·.2))[k]? = some v.2 := by rw [List.getElem?_map, hx]; rfl
    have hm := List.mem_of_getElem? hx
    have hvw := hw v hm
    have hv0 := h0 v hm
    refine Tr.step (fun m => by rw [m_impl_match_l6, List.length_map, ltN hk, cond_true, idx_nat hx1, Option.bind_some]) (Tr.bind (copyForm_tr v.1 (by omega)) ?_)
    refine Tr.eq (fun m => by rw [idx_nat hx2, Option.bind_some, w64_in (n := v.2 + 1) (by omega), succN]) (Tr.chk (decide_eq_true (by simp; omega)) ?_)
    refine ih (g ++ [Hit.mk v.1 (v.2 + 1) form0 []]) (by simp [hg]) ?_
    rw [rowH] at he
    rw [List.append_assoc]; exact he
theorem mts_row (hS : MatS bs lits P F) (hR : RowS P F xs pr dd tail) : Form.mts bs lits (pr :: dd :: tail) (F.kids.drop xs.length) = match allM (fun f => pr.mt bs lits f) ((F.kids.drop xs.length).take (RowS.many F xs tail)) with
    | none => none
    | some rows => oapp (some (rowH 0 (pr.vd lits 0) rows)) (Form.mts bs lits tail (F.kids.drop (xs.length + RowS.many F xs tail))) := by
  have h3 := hR.len
  have hl : (F.kids.drop xs.length).length = F.kids.length - xs.length := List.length_drop
  have hN : (F.kids.drop xs.length).length + 1 - (dd :: tail).length = RowS.many F xs tail := by rw [hl, List.length_cons]; unfold RowS.many; omega
  rw [Form.mts_eq, hR.row, cond_false, show nextD (dd :: tail) = isDots dd from rfl, hR.dots, cond_true, decide_eq_false (by rw [hl, List.length_cons]; omega), cond_false, hN]
  cases allM (fun f => pr.mt bs lits f) ((F.kids.drop xs.length).take (RowS.many F xs tail)) with
  | none => rfl
  | some rows => simp only; rw [Form.mts_eq bs lits dd, hR.dots, cond_true, List.drop_drop]
theorem match_j3_tr (hS : MatS bs lits P F) (hR : RowS P F xs pr dd tail) (acc : List Hit) (ha : acc.length ≤ 2 ^ 18) : Tr (fun m => m_impl_match_j3 m bs P lits F ((xs.length + 1 : Nat) : Int) acc) (oR (oacc acc (Form.mts bs lits (pr :: dd :: tail) (F.kids.drop xs.length)))) := by
  have h1 := RowS.lens hS hR
  have h2 := hR.plen
  have h3 := hR.len
  have hpm := List.mem_of_getElem? hR.at_pr
  have hpp : PatS pr := (hS.kid pr hpm).pat hR.row
  have hpw := Form.ws_mem hpm
  have hwp := hS.wp
  have hvd := Form.vd_len lits pr 0
  have hhi := Form.vd_hi lits pr 0
  have hnn := Form.vd_nn lits pr 0
  refine Tr.step (fun m => by rw [m_impl_match_j3, RowS.row_eq hS hR, idx_nat hR.at_pr, Option.bind_some]) (Tr.bind (varsOf_tr pr lits (by omega)) ?_)
  have hvw : ∀ v ∈ pr.vd lits 0, v.1.w ≤ 2 ^ 30 := fun v hv => by
    have hm : v.1 ∈ pr.vs lits := by rw [← Form.vd_fst lits pr 0]; exact List.mem_map.2 ⟨v, hv, rfl⟩
    have := Form.vs_w lits pr v.1 hm; omega
  refine match_l6_tr (bs := bs) (lits := lits) (P := P) (F := F) _ acc (pr.vd lits 0) hvw (fun v hv => ⟨hnn v hv, by have := hhi v hv; omega⟩) (by omega) ?_
  have hsub : sub F.kids ((xs.length : Nat) : Int) ((xs.length + RowS.many F xs tail : Nat) : Int) = some ((F.kids.drop xs.length).take (RowS.many F xs tail)) := by
    have hle : xs.length + RowS.many F xs tail ≤ F.kids.length := by unfold RowS.many; omega
    unfold sub
    rw [decide_eq_true (by omega), decide_eq_true (by omega), decide_eq_true (by omega)]
    simp only [Bool.and_self, cond_true, Int.toNat_natCast, Option.some.injEq]
    rw [List.take_drop]
  have hbnd : RowS.many F xs tail ≤ F.kids.length := by unfold RowS.many; omega
  refine Tr.step (fun m => by rw [m_impl_match_j5, RowS.row_eq hS hR, RowS.many_eq hS hR, w64_in (n := ((xs.length : Nat) : Int) + ((RowS.many F xs tail : Nat) : Int)) (by omega), show ((xs.length : Nat) : Int) + ((RowS.many F xs tail : Nat) : Int) = ((xs.length + RowS.many F xs tail : Nat) : Int) by simp, hsub, Option.bind_some]) ?_
  have hj7 : ∀ rows : List (List Hit), Tr (fun m => m_impl_match_j7 m bs P lits F ((xs.length + 1 : Nat) : Int) acc (rowH 0 (pr.vd lits 0) rows)) (oR (oacc (acc ++ rowH 0 (pr.vd lits 0) rows) (Form.mts bs lits tail (F.kids.drop (xs.length + RowS.many F xs tail))))) := fun rows => by
    have hrl := rowH_length (pr.vd lits 0) 0 rows
    refine Tr.step (fun m => by rw [m_impl_match_j7]) (Tr.chk (decide_eq_true (by omega)) ?_)
    have htw : Form.ws tail ≤ Form.ws P.kids := by
      rw [hR.eq, Form.ws_append, Form.ws, Form.ws]; omega
    have := match_l10_tr hS hR tail 0 (acc ++ rowH 0 (pr.vd lits 0) rows) (by rw [List.drop_zero]) (Nat.zero_le _) (by rw [List.length_append, hrl]; omega)
    refine Tr.eq (fun m => by rw [w64_in (by omega), succN]) ?_
    exact this
  have h8 := match_l8_tr hS hR acc ((F.kids.drop xs.length).take (RowS.many F xs tail)) (fun f hf => List.mem_of_mem_drop (List.mem_of_mem_take hf)) (by rw [List.length_take, List.length_drop]; omega)
    (fun hits => oR (oacc (acc ++ hits) (Form.mts bs lits tail (F.kids.drop (xs.length + RowS.many F xs tail))))) (fun rows _ _ => hj7 rows)
  rw [mts_row hS hR]
  cases ha : allM (fun f => pr.mt bs lits f) ((F.kids.drop xs.length).take (RowS.many F xs tail)) with
  | none => rw [ha] at h8; exact h8
  | some rows => rw [ha] at h8; simp only; rw [oR_some]; exact h8
theorem match_l4_tr (hS : MatS bs lits P F) (hR : RowS P F xs pr dd tail) : ∀ (rest : List Form) (k : Nat) (acc : List Hit), xs.drop k = rest → k ≤ xs.length → acc.length + Form.ws rest ≤ 2 ^ 18 →
    Tr (fun m => m_impl_match_l4 m bs P lits F ((xs.length + 1 : Nat) : Int) (k : Int) acc) (oR (oacc acc (Form.mts bs lits (rest ++ pr :: dd :: tail) (F.kids.drop k))))
  | [], k, acc, hd, hk, ha => by
    have : k = xs.length := by have := congrArg List.length hd; rw [List.length_drop] at this; simp at this; omega
    subst this
    rw [List.nil_append]
    exact Tr.step (fun m => by rw [m_impl_match_l4, RowS.row_eq hS hR, ltN_self, cond_false]) (match_j3_tr hS hR acc (by omega))
  | x :: rest, k, acc, hd, hk, ha => by
    obtain ⟨hx0, hd2, hlt⟩ := drop_cons' hd
    have h1 := RowS.lens hS hR
    have h2 := hR.plen
    have h3 := hR.len
    have hx : P.kids[k]? = some x := by rw [hR.eq, List.getElem?_append_left hlt]; exact hx0
    have hdx := hR.pre x (List.mem_of_getElem? hx0)
    have hy : F.kids[k]? = some F.kids[k] := List.getElem?_eq_getElem (by omega)
    have hdr : F.kids.drop k = F.kids[k] :: F.kids.drop (k + 1) := List.drop_eq_getElem_cons (by omega)
    have hnd : nextD (rest ++ pr :: dd :: tail) = false := by
      cases rest with
      | nil => exact hR.row
      | cons z zs => exact hR.pre z (by have : z ∈ xs.drop (k + 1) := by rw [hd2]; simp
                                        exact List.mem_of_mem_drop this)
    rw [Form.ws] at ha
    refine Tr.step (fun m => by rw [m_impl_match_l4, RowS.row_eq hS hR, ltN hlt, cond_true, idx_nat hx, Option.bind_some, idx_nat hy, Option.bind_some]) ?_
    refine Tr.bind (match1_tr hS (List.mem_of_getElem? hx) hdx (List.mem_of_getElem? hy) (by omega)) ?_
    rw [hdr, List.cons_append, mts_one hdx hnd]
    cases hm : x.mt bs lits F.kids[k] with
    | none => rw [oR_none]; exact Tr.tt rfl Tr.val
    | some h =>
      rw [oR_some]
      have hw := mt_length hS (List.mem_of_getElem? hx) hdx hm
      exact Tr.ff rfl (Tr.eq (fun m => by rw [w64_in (by omega), succN]; rfl) (match_l4_tr hS hR rest (k + 1) (acc ++ h) hd2 hlt (by rw [List.length_append]; omega)))
end
theorem implMatch_n (bs : List Bind) (lits : List Form) (hbs : bs.length ≤ 2 ^ 36) (hbf : ∀ b ∈ bs, b.fit) (hbv : bvOk bs = true) : ∀ (n : Nat) (p : Form), p.w ≤ n → PatS p → p.fit → p.w ≤ 2 ^ 17 → ∀ f : Form, f.valid = true → f.fit → f.w ≤ 2 ^ 17 →
    Tr (fun m => m_impl_match m bs p lits f) (oR (p.mt bs lits f)) := by
  intro n
  induction n with
  | zero => intro p h; have := p.w_kids; omega
  | succ n ih =>
    intro p hp hs hpf hpb f hfv hff hfb
    have hw := p.w_kids
    have hfw := f.w_kids
    obtain ⟨q1, q2, q3, q4, q5⟩ := hs.parts
    refine Tr.step (fun m => by rw [m_impl_match]) ?_
    rw [Form.mt_eq]
    by_cases h1 : p.kind = 1
    · rw [decide_eq_true h1, cond_true]
      refine Tr.tt rfl ?_
      by_cases h2 : p.name = underN
      · rw [decide_eq_true h2, cond_true]
        exact Tr.tt rfl Tr.val
      · rw [decide_eq_false h2, cond_false]
        refine Tr.ff rfl (Tr.bind (isIn_tr lits p) ?_)
        cases inF lits p with
        | true =>
          refine Tr.tt rfl (Tr.bind (sameRef_tr bs p f hbs hbf hpf hff) ?_)
          rw [cond_true, hbv, Bool.true_and]
          have hnp : isNm p = true := by
            unfold isNm; rw [decide_eq_true h1, Bool.true_and]
            obtain ⟨d, hd⟩ := hs.ok
            exact (isOk_name hd h1).1
          have hnf : isNm f = decide (f.kind = 1) := by unfold isNm; rw [hfv, Bool.and_true]
          rw [hnp, Bool.true_and, hnf]
          cases decide (f.kind = 1) && refS bs p f <;> exact Tr.val
        | false =>
          refine Tr.ff rfl (Tr.bind (copyForm_tr p (by omega)) (Tr.bind (copyForm_tr f (by omega)) ?_))
          rw [cond_false]; exact Tr.val
    · rw [decide_eq_false h1, cond_false]
      refine Tr.ff rfl ?_
      by_cases h2 : p.kind = 2
      · rw [decide_eq_true h2, cond_true]
        refine Tr.tt rfl (Tr.bind (implFormSame_tr p f) ?_)
        cases same p f <;> exact Tr.val
      · rw [decide_eq_false h2, cond_false]
        refine Tr.ff rfl ?_
        by_cases h3 : f.kind ≠ 3
        · rw [decide_eq_true h3, cond_true]; exact Tr.tt rfl Tr.val
        · rw [decide_eq_false h3, cond_false]
          refine Tr.ff rfl (Tr.bind (dotsAt_tr p.kids) ?_)
          have hl1 := Form.ws_len p.kids
          have hl2 := Form.ws_len f.kids
          have hS : MatS bs lits p f := ⟨q4, fun x hx hd g hg => ih x (by have := Form.ws_mem hx; omega) ((q4 x hx).pat hd) (Form.fits_mem hpf.parts.2.2.2 hx) (by have := Form.ws_mem hx; omega) g (valid_kid hfv hg) (Form.fits_mem hff.parts.2.2.2 hg) (by have := Form.ws_mem hg; omega), by omega, by omega⟩
          have hacc : ∀ o : Option (List Hit), oacc [] o = o := fun o => by cases o <;> simp [oacc]
          rcases cntD_split q3 with hno | ⟨ys, dd, tail, he, e1, e2, e3⟩
          · rw [fnd_no hno]
            refine Tr.tt rfl ?_
            by_cases hlen : p.kids.length = f.kids.length
            · refine Tr.ff (lenE hlen) ?_
              have := match_l2_tr hS hlen p.kids 0 [] (by rw [List.drop_zero]) (Nat.zero_le _) hno (by simp; omega)
              rw [hacc, List.drop_zero] at this
              exact this
            · refine Tr.tt (decide_eq_true (by omega)) ?_
              have hmn : Form.mts bs lits p.kids f.kids = none := by
                cases hm : Form.mts bs lits p.kids f.kids with
                | none => rfl
                | some h =>
                  exact absurd ((mts_len hm).1 (cntD_all hno)) hlen
              rw [hmn]; exact Tr.val
          · obtain ⟨zs, pr, hz⟩ : ∃ zs pr, ys = zs ++ [pr] := by
              rcases List.eq_nil_or_concat ys with h0 | ⟨zs, pr, h0⟩
              · subst h0
                rw [he, List.nil_append, Form.kP, e2] at q2
                simp at q2
              · exact ⟨zs, pr, by simpa using h0⟩
            subst hz
            have hat : fnd isDots p.kids 0 = ((zs.length + 1 : Nat) : Int) := by
              rw [he, fnd_pre e1 e2]; simp
            rw [hat]
            have hpk : p.kids = zs ++ pr :: dd :: tail := by rw [he, List.append_assoc]; rfl
            have hplen : p.kids.length = zs.length + 2 + tail.length := by rw [hpk]; simp; omega
            refine Tr.ff (decide_eq_false (by omega)) ?_
            by_cases hlen : zs.length + tail.length ≤ f.kids.length
            · have hR : RowS p f zs pr dd tail := ⟨hpk, fun x hx => e1 x (by simp [hx]), e1 pr (by simp), e2, e3, hlen⟩
              refine Tr.ff (decide_eq_false (by rw [RowS.many_eq hS hR]; omega)) ?_
              have hzw : Form.ws zs ≤ Form.ws p.kids := by rw [hpk, Form.ws_append]; omega
              have := match_l4_tr hS hR zs 0 [] (by rw [List.drop_zero]) (Nat.zero_le _) (by simp; omega)
              rw [hacc, List.drop_zero, ← hpk] at this
              exact this
            · refine Tr.tt (decide_eq_true (by rw [w64_in (n := (p.kids.length : Int) - 2) (by omega), w64_in (by omega)]; omega)) ?_
              have hmn : Form.mts bs lits p.kids f.kids = none := by
                cases hm : Form.mts bs lits p.kids f.kids with
                | none => rfl
                | some h =>
                  have hc : cntD p.kids = 1 := by
                    rw [he, cntD_app, cntD_all e1, cntD, e2, cntD_all e3]; rfl
                  have hnd : nextD p.kids = false := by
                    rw [hpk]
                    cases zs with
                    | nil => exact e1 pr (by simp)
                    | cons z zs => exact e1 z (by simp)
                  have := (mts_len hm).2.2 hc hnd
                  omega
              rw [hmn]; exact Tr.val
end Go.Abs
end
section
set_option linter.unusedVariables false
set_option linter.unusedSimpArgs false
namespace Go.Abs
theorem PatS.kind {p : Form} (h : PatS p) (h1 : ¬ p.kind = 1) (h2 : ¬ p.kind = 2) : p.kind = 3 := by
  obtain ⟨d, hd⟩ := h.ok
  rw [Form.isOk_eq] at hd
  cases hd0 : decide (d = 0) with
  | true => rw [hd0] at hd; cases hd
  | false =>
    rw [hd0, cond_false, decide_eq_false h1, cond_false, decide_eq_false h2, cond_false, Bool.and_eq_true, decide_eq_true_eq] at hd
    exact hd.1
theorem cnt_eq (f : Form) : f.cnt = 1 + Form.cnts f.kids := by obtain ⟨a, b, c, d, e⟩ := f; rw [Form.cnt]; rfl
end Go.Abs
end
section
set_option linter.unusedVariables false
set_option linter.unusedSimpArgs false
namespace Go.Abs
theorem isOk_w : ∀ (n : Nat) (f : Form), f.w ≤ n → ∀ d, f.isOk d = true → f.w + 1 ≤ 26 * f.cnt := by
  intro n
  induction n with
  | zero => intro f h; have := f.w_kids; omega
  | succ n ih =>
    intro f hn d hd
    have hw := f.w_kids
    have hc := cnt_eq f
    obtain ⟨k1, k2⟩ := isOk_kids hd
    have hsc : f.scopes.length ≤ 24 := by
      rw [Form.isOk_eq] at hd
      cases hd0 : decide (d = 0) with
      | true => rw [hd0] at hd; cases hd
      | false =>
      rw [hd0, cond_false] at hd
      by_cases h1 : f.kind = 1
      · rw [decide_eq_true h1, cond_true] at hd
        unfold scOk at hd
        simp only [Bool.and_eq_true, decide_eq_true_eq] at hd
        omega
      · rw [decide_eq_false h1, cond_false] at hd
        by_cases h2 : f.kind = 2
        · rw [decide_eq_true h2, cond_true] at hd
          simp only [Bool.and_eq_true, decide_eq_true_eq] at hd
          omega
        · rw [decide_eq_false h2, cond_false] at hd
          simp only [Bool.and_eq_true, decide_eq_true_eq] at hd
          omega
    have hk : Form.ws f.kids ≤ 26 * Form.cnts f.kids := by
      have : ∀ l : List Form, (∀ x ∈ l, x ∈ f.kids) → Form.ws l ≤ 26 * Form.cnts l := by
        intro l
        induction l with
        | nil => intro _; rw [Form.ws]; omega
        | cons x l ihl =>
          intro hx
          have h1 := ihl (fun y hy => hx y (by simp [hy]))
          have hm := hx x (by simp)
          have h2 := Form.ws_mem hm
          have h3 := ih x (by omega) _ (k2 x hm)
          rw [Form.cnts, Form.ws]; omega
      exact this _ (fun x hx => hx)
    omega
theorem valid_w {f : Form} (h : f.valid = true) : f.w ≤ 10400 := by
  unfold Form.valid at h
  rw [Bool.and_eq_true, decide_eq_true_eq] at h
  have := isOk_w _ f (Nat.le_refl _) 40 h.1
  omega
theorem patOk_w {p : Form} {lits : List Form} (h : patOk p lits = true) : p.w ≤ 10400 := by
  unfold patOk at h
  rw [Bool.and_eq_true] at h
  exact valid_w h.1
def fstR {α : Type} (D : α → Bool) (l : List α) : Int × Bool := bif decide (0 ≤ fnd D l 0) then (fnd D l 0, true) else (0, false)
theorem loop_first {α β : Type} {xs : List α} {D : α → Bool} {L : Nat → Int → Option (Int × Bool)} {E : Nat → α → Option β} {B : β → Bool}
    (h0 : ∀ m k, L (m + 1) k = bif decide (k < (xs.length : Int)) then (idx xs k).bind fun a => (E m a).bind fun v => bif B v then some (k, true) else L m (k + 1) else some (0, false))
    (hE : ∀ a ∈ xs, ∃ v, Tr (fun m => E m a) v ∧ B v = D a) : Tr (fun m => L m 0) (fstR D xs) := by
  have key := drop_ind xs (fun k zs => Tr (fun m => L m (k : Int)) (bif decide (0 ≤ fnd D zs k) then (fnd D zs k, true) else (0, false))) ?_ ?_ 0 (Nat.zero_le _)
  · exact key
  · exact Tr.step (fun m => by rw [h0, ltN_self, cond_false]; rfl) Tr.val
  · intro k x zs hk hx hd ih
    obtain ⟨v, hv, hb⟩ := hE x (List.mem_of_getElem? hx)
    refine Tr.step (fun m => by rw [h0, ltN hk, cond_true, idx_nat hx, Option.bind_some, succN]) (Tr.bind hv ?_)
    rw [hb, fnd]
    cases hD : D x with
    | true => exact Tr.tt rfl (by rw [cond_true, decide_eq_true (by omega), cond_true]; exact Tr.val)
    | false => exact Tr.ff rfl (by rw [cond_false]; exact ih)
noncomputable def ruleM (bs : List Bind) (lits : List Form) (f : Form) (r : Rule) : Bool := (r.pattern.mt bs lits f).isSome
noncomputable def firstR (bs : List Bind) (rules : List Rule) (lits : List Form) (f : Form) : Int × Bool :=
  bif bvOk bs && (rulesOkB rules lits && f.valid) then fstR (ruleM bs lits f) rules else (0, false)
theorem rulesOk_all {rules : List Rule} {lits : List Form} (h : rulesOkB rules lits = true) : (∀ r ∈ rules, ruleOk r lits = true) ∧ rules.length ≤ 9 := by
  unfold rulesOkB at h
  simp only [Bool.and_eq_true, decide_eq_true_eq] at h
  exact ⟨alls_iff.1 h.1, by have := h.2.1; omega⟩
theorem ruleOk_pat {r : Rule} {lits : List Form} (h : ruleOk r lits = true) : patOk r.pattern lits = true := by
  unfold ruleOk at h
  rw [Bool.and_eq_true] at h
  exact h.1
structure RulesF (rules : List Rule) : Prop where
  fit : ∀ r ∈ rules, r.fit
  pw : ∀ r ∈ rules, r.pattern.w ≤ 2 ^ 36
  tw : ∀ r ∈ rules, r.template.w ≤ 2 ^ 36
theorem implFirst_tr (bs : List Bind) (rules : List Rule) (lits : List Form) (f : Form) (hb : ∀ b ∈ bs, b.fit) (hbl : bs.length ≤ 2 ^ 36) (hr : RulesF rules) (hl : Form.fits lits) (hf : f.fit) :
    Tr (fun m => m_impl_FirstRule m bs rules lits f) (firstR bs rules lits f) := by
  refine Tr.eq (fun m => by unfold m_impl_FirstRule; rfl) (Tr.bind (implBindsValid_tr bs (by omega) hb) ?_)
  unfold firstR
  have no : Tr (fun m => m_impl_FirstRule_j1 m bs rules lits f true) ((0 : Int), false) := Tr.step (fun m => by rw [m_impl_FirstRule_j1]; rfl) Tr.val
  cases hbv : bvOk bs with
  | false => exact Tr.tt rfl no
  | true =>
  refine Tr.ff rfl (Tr.bind (rulesOk_tr rules lits (fun r h => ⟨hr.fit r h, hr.pw r h, hr.tw r h⟩) hl) ?_)
  cases hro : rulesOkB rules lits with
  | false => exact Tr.tt rfl no
  | true =>
  refine Tr.ff rfl (Tr.bind (implFormValid_tr f hf) ?_)
  cases hfv : f.valid with
  | false => exact no
  | true =>
  refine Tr.step (fun m => by rw [m_impl_FirstRule_j1, Bool.not_true, cond_false]) ?_
  rw [Bool.true_and, Bool.true_and, cond_true]
  have hfw := valid_w hfv
  refine loop_first (L := fun m k => m_impl_FirstRule_l2 m bs rules lits f k) (E := fun m r => m_impl_match m bs r.pattern lits f) (B := fun v => v.2) (fun m k => by rw [m_impl_FirstRule_l2]) (fun r h => ?_)
  have hpo := ruleOk_pat ((rulesOk_all hro).1 r h)
  have hpw := patOk_w hpo
  exact ⟨_, implMatch_n bs lits hbl hb hbv _ r.pattern (Nat.le_refl _) (patOk_S hpo) (hr.fit r h).1 (by omega) f hfv hf (by omega), rfl⟩
theorem specFirst_tr (bs : List Bind) (rules : List Rule) (lits : List Form) (f : Form) (hb : ∀ b ∈ bs, b.fit) (hbl : bs.length ≤ 2 ^ 36) (hr : RulesF rules) (hl : Form.fits lits) (hlw : Form.ws lits ≤ 2 ^ 36) (hf : f.fit) (hfb : f.w ≤ 2 ^ 36) :
    Tr (fun m => m_spec_FirstRule m bs rules lits f) (firstR bs rules lits f) := by
  refine Tr.eq (fun m => by unfold m_spec_FirstRule; rfl) (Tr.bind (specBindsValid_tr bs hb) ?_)
  unfold firstR
  have no : Tr (fun m => m_spec_FirstRule_j1 m bs rules lits f true) ((0 : Int), false) := Tr.step (fun m => by rw [m_spec_FirstRule_j1]; rfl) Tr.val
  cases hbv : bvOk bs with
  | false => exact Tr.tt rfl no
  | true =>
  refine Tr.ff rfl (Tr.bind (l5Rules_tr rules lits (fun r h => ⟨⟨hr.pw r h, (hr.fit r h).1⟩, ⟨hr.tw r h, (hr.fit r h).2⟩⟩) hl hlw) ?_)
  cases hro : rulesOkB rules lits with
  | false => exact Tr.tt rfl no
  | true =>
  refine Tr.ff rfl (Tr.bind (specFormValid_tr f hf hfb) ?_)
  cases hfv : f.valid with
  | false => exact no
  | true =>
  refine Tr.step (fun m => by rw [m_spec_FirstRule_j1, Bool.not_true, cond_false]) ?_
  rw [Bool.true_and, Bool.true_and, cond_true]
  have hfw := valid_w hfv
  refine loop_first (L := fun m k => m_spec_FirstRule_l2 m bs rules lits f k) (E := fun m r => m_spec_l4Match m bs r.pattern lits f) (B := fun v => v.2) (fun m k => by rw [m_spec_FirstRule_l2]) (fun r h => ?_)
  have hpo := ruleOk_pat ((rulesOk_all hro).1 r h)
  have hpw := patOk_w hpo
  obtain ⟨v, hv, h1, h2⟩ := l4Match_n bs lits hbl _ r.pattern (Nat.le_refl _) (patOk_S hpo) (by omega) f (by omega)
  exact ⟨v, hv, h1⟩
theorem eqForm_self (f : Form) : Tr (fun m => m_laws_eqForm m f f) true := by have := eqForm_tr f f; rwa [same_self] at this
theorem eqFormS_self (l : List Form) : Tr (fun m => m_laws_eqFormS m l l) true := by have := eqFormS_tr l l; rwa [same_self] at this
theorem FnExactFirstRule_law (bs : List Bind) (rules : List Rule) (lits : List Form) (f : Form) (hbl : bs.length ≤ 9223372036854775807) (hb : ∀ b ∈ bs, b.fit) (hrl : rules.length ≤ 9223372036854775807) (hr : ∀ r ∈ rules, r.fit) (hll : lits.length ≤ 9223372036854775807) (hl : Form.fits lits) (hf : f.fit) :
    TQ (fun m => m_laws_FnExactFirstRule m bs rules lits f) (fun b => b = true) := by
  refine TQ.eq (fun m => by unfold m_laws_FnExactFirstRule; rfl) (TQ.bind (szBindS_tq bs 1048576 hbl hb (by omega) (by omega)) (fun v hv => ?_))
  rcases hv with rfl | ⟨h0, rfl⟩
  · exact TQ.cond (fun _ => TQ.val rfl) (fun h => absurd h (by decide))
  refine TQ.cond (fun h => absurd h (by rw [geZ h0]; decide)) (fun _ => TQ.bind (szRuleS_tq rules _ hrl hr h0 (by omega)) (fun v hv => ?_))
  rcases hv with rfl | ⟨h1, rfl⟩
  · exact TQ.cond (fun _ => TQ.val rfl) (fun h => absurd h (by decide))
  refine TQ.cond (fun h => absurd h (by rw [geZ h1]; decide)) (fun _ => TQ.bind (szFormS_tq lits _ hll hl h1 (by omega)) (fun v hv => ?_))
  rcases hv with rfl | ⟨h2, rfl⟩
  · exact TQ.cond (fun _ => TQ.val rfl) (fun h => absurd h (by decide))
  refine TQ.cond (fun h => absurd h (by rw [geZ h2]; decide)) (fun _ => TQ.bind (szForm_tq f _ hf h2 (by omega)) (fun v hv => ?_))
  rcases hv with rfl | ⟨h3, rfl⟩
  · exact TQ.cond (fun _ => TQ.val rfl) (fun h => absurd h (by decide))
  refine TQ.cond (fun h => absurd h (by rw [geZ h3]; decide)) (fun _ => ?_)
  have hfw := f.w_wt
  have hws := Form.ws_wts lits
  have hbw : ∀ b ∈ bs, b.scopes.length ≤ 2 ^ 36 := fun b hb => by
    have h := sumW_mem (W := Bind.wt) hb
    have e : b.wt = b.name.size + b.scopes.length := rfl
    omega
  have hrw : ∀ r ∈ rules, r.pattern.w ≤ 2 ^ 36 ∧ r.template.w ≤ 2 ^ 36 := fun r hr => by
    have h := sumW_mem (W := Rule.wt) hr
    have e : r.wt = r.pattern.wt + r.template.wt := rfl
    have a := r.pattern.w_wt
    have b := r.template.w_wt
    omega
  have t1 := toBindS_tr bs (by omega) hbw
  have t2 := toRuleS_tr rules (by omega) hrw
  have t3 := toFormS_tr lits (by omega)
  have t4 := toForm_tr f (by omega)
  have hRF : RulesF rules := ⟨hr, fun r h => (hrw r h).1, fun r h => (hrw r h).2⟩
  refine TQ.ev t1 (TQ.ev t2 (TQ.ev t3 (TQ.ev t4 (TQ.ev (specFirst_tr bs rules lits f hb (by omega) hRF hl (by omega) hf (by omega)) (TQ.ev t1 (TQ.ev t2 (TQ.ev t3 (TQ.ev t4 (TQ.ev (implFirst_tr bs rules lits f hb (by omega) hRF hl hf) ?_)))))))))
  refine TQ.same (Tr.ff (decide_eq_false (fun h => h rfl)) ?_)
  rw [decide_eq_false (fun h => h rfl)]
  refine Tr.step (fun m => by rw [m_laws_FnExactFirstRule_j1, cond_false]) (Tr.bind t1 (Tr.bind (eqBindS_self bs) ?_))
  refine Tr.eq (fun m => by rw [Bool.not_true, cond_false]) (Tr.bind t2 (Tr.bind (eqRuleS_self rules) ?_))
  refine Tr.eq (fun m => by rw [Bool.not_true, cond_false]) (Tr.bind t3 (Tr.bind (eqFormS_self lits) ?_))
  refine Tr.eq (fun m => by rw [Bool.not_true, cond_false]) (Tr.bind t4 (Tr.bind (eqForm_self f) ?_))
  exact Tr.eq (fun m => by rw [Bool.not_true, cond_false]) Tr.val
end Go.Abs
end
