/- A part of the proof: what the functions that the law calls answer, as pure values. -/
import Derived.Test.YtjjjnhpghhamkaaK0fb1e74e142c
import Derived.Test.YtjjjnhpghhamkaaK690595b2f9f4
import Derived.Test.YtjjjnhpghhamkaaK98cf125b73d6
import Derived.Test.YtjjjnhpghhamkaaKc0e0dbe5f3a5
set_option linter.unusedSimpArgs false
set_option linter.unusedVariables false
section
set_option linter.unusedVariables false
set_option linter.unusedSimpArgs false
namespace Go.Abs
theorem FindName_tr (l : List Bind) (f : Form) (hl : l.length ≤ 2 ^ 36) (hb : ∀ b ∈ l, b.fit) (hf : f.fit) (hv : bvOk l = true) (hn : isNm f = true) :
    Tr (fun m => m_impl_FindName m l f) (bif decide ((refB l f).2 = 1) then (bAt l (refB l f).1).id else 0, (refB l f).2) := by
  refine Tr.eq (fun m => by unfold m_impl_FindName; rfl) (Tr.bind (implBindsValid_tr l (by omega) hb) ?_)
  rw [hv]
  refine Tr.ff rfl (Tr.bind (implIsName_tr f hf) ?_)
  rw [hn]
  refine Tr.step (fun m => by rw [m_impl_FindName_j1, Bool.not_true, cond_false]) (Tr.bind (bound_tr l f hl) ?_)
  rcases refB_cases l f with ⟨i, ha, i0, i1⟩ | ha | ha
  · rw [ha]
    exact Tr.ff (by simp) (Tr.eq (fun m => by rw [bAt_idx i0 i1, Option.bind_some]; rfl) Tr.val)
  · rw [ha]; exact Tr.tt (by simp) Tr.val
  · rw [ha]; exact Tr.tt (by simp) Tr.val
theorem sameRef_tr (l : List Bind) (a b : Form) (hl : l.length ≤ 2 ^ 36) (hb : ∀ b ∈ l, b.fit) (ha : a.fit) (hbf : b.fit) :
    Tr (fun m => m_impl_SameReference m l a b) (bvOk l && (isNm a && (isNm b && refS l a b))) := by
  refine Tr.eq (fun m => by unfold m_impl_SameReference; rfl) (Tr.bind (implBindsValid_tr l (by omega) hb) ?_)
  have no : Tr (fun m => m_impl_SameReference_j1 m l a b true) false := Tr.step (fun m => by rw [m_impl_SameReference_j1, cond_true]) Tr.val
  cases hv : bvOk l with
  | false => exact Tr.tt rfl no
  | true =>
  refine Tr.ff rfl (Tr.bind (implIsName_tr a ha) ?_)
  cases hna : isNm a with
  | false => exact Tr.tt rfl no
  | true =>
  refine Tr.ff rfl (Tr.bind (implIsName_tr b hbf) ?_)
  cases hnb : isNm b with
  | false => exact no
  | true =>
  refine Tr.step (fun m => by rw [m_impl_SameReference_j1, Bool.not_true, cond_false]) (Tr.bind (FindName_tr l a hl hb ha hv hna) (Tr.bind (FindName_tr l b hl hb hbf hv hnb) ?_))
  rw [Bool.true_and, Bool.true_and, Bool.true_and]
  unfold refS
  rcases refB_cases l a with ⟨i, ea, i0, i1⟩ | ea | ea <;> rcases refB_cases l b with ⟨j, eb, j0, j1⟩ | eb | eb <;> rw [ea, eb]
  · refine Tr.tt rfl (Tr.tt rfl ?_)
    by_cases h : (bAt l i).id = (bAt l j).id
    · exact Tr.tt (by simpa using h) (by simpa [h] using Tr.val)
    · exact Tr.ff (by simpa using h) (Tr.ff (by simp) (by simpa [h] using Tr.val))
  · exact Tr.tt rfl (Tr.ff (by simp) (Tr.ff (by simp) (by simpa using Tr.val)))
  · exact Tr.tt rfl (Tr.ff (by simp) (Tr.ff (by simp) (by simpa using Tr.val)))
  · exact Tr.ff (by simp) (Tr.ff (by simp) (by simpa using Tr.val))
  · exact Tr.ff (by simp) (Tr.ff (by simp) (by simpa using Tr.val))
  · exact Tr.ff (by simp) (Tr.ff (by simp) (by simpa using Tr.val))
  · exact Tr.ff (by simp) (Tr.tt rfl (Tr.ff (by simp) (by simpa using Tr.val)))
  · exact Tr.ff (by simp) (Tr.tt rfl (Tr.ff (by simp) (by simpa using Tr.val)))
  · exact Tr.ff (by simp) (Tr.tt rfl (Tr.tt rfl (by simpa using Tr.val)))
def oR (o : Option (List Hit)) : List Hit × Bool := (o.getD [], o.isSome)
def oacc (acc : List Hit) (o : Option (List Hit)) : Option (List Hit) := o.map (acc ++ ·)
theorem oacc_oapp (acc : List Hit) (a b : Option (List Hit)) : oacc acc (oapp a b) = match a with
    | none => none
    | some h => oacc (acc ++ h) b := by
  cases a <;> cases b <;> simp [oacc, oapp]
theorem dotsAt_tr (l : List Form) : Tr (fun m => m_impl_dotsAt m l) (fnd isDots l 0) := by
  refine Tr.eq (fun m => by unfold m_impl_dotsAt; rfl) (Tr.bind ?_ Tr.val)
  refine Tr.eq (fun m => by unfold m_slices_IndexFunc_Form_dotsAt_1; rfl) ?_
  exact loop_find (L := fun m i => m_slices_IndexFunc_Form_dotsAt_1_l1 m l i) (E := fun m y => m_impl_dotsAt_1 m y) (fun m i => by rw [m_slices_IndexFunc_Form_dotsAt_1_l1]) (fun y _ => Tr.eq (fun m => by unfold m_impl_dotsAt_1; rfl) (Tr.bind (named_tr _ _) Tr.val))
theorem fnd_pre {α : Type} {D : α → Bool} : ∀ {xs : List α} {y : α} {zs : List α} {k : Nat}, (∀ x ∈ xs, D x = false) → D y = true → fnd D (xs ++ y :: zs) k = ((k + xs.length : Nat) : Int)
  | [], y, zs, k, _, hy => by rw [List.nil_append, fnd, hy, cond_true]; simp
  | x :: xs, y, zs, k, h, hy => by
    rw [List.cons_append, fnd, h x (by simp), cond_false, fnd_pre (fun z hz => h z (by simp [hz])) hy, List.length_cons]
    congr 1; omega
theorem cntD_zero : ∀ {l : List Form}, cntD l = 0 → ∀ x ∈ l, isDots x = false
  | y :: ys, h, x, hx => by
    rw [cntD] at h
    rcases List.mem_cons.1 hx with rfl | hx
    · cases hd : isDots x with
      | false => rfl
      | true => rw [hd] at h; simp at h
    · exact cntD_zero (by omega) x hx
theorem cntD_split : ∀ {l : List Form}, cntD l ≤ 1 → (∀ x ∈ l, isDots x = false) ∨ ∃ xs y zs, l = xs ++ y :: zs ∧ (∀ x ∈ xs, isDots x = false) ∧ isDots y = true ∧ ∀ x ∈ zs, isDots x = false
  | [], _ => .inl (fun x hx => by cases hx)
  | y :: ys, h => by
    rw [cntD] at h
    cases hd : isDots y with
    | true =>
      rw [hd, cond_true] at h
      exact .inr ⟨[], y, ys, rfl, (fun x hx => by cases hx), hd, cntD_zero (by omega)⟩
    | false =>
      rw [hd, cond_false] at h
      rcases cntD_split (l := ys) (by omega) with h1 | ⟨xs, z, zs, rfl, h2, h3, h4⟩
      · exact .inl (fun x hx => by
          rcases List.mem_cons.1 hx with rfl | hx
          · exact hd
          · exact h1 x hx)
      · exact .inr ⟨y :: xs, z, zs, rfl, (fun x hx => by
          rcases List.mem_cons.1 hx with rfl | hx
          · exact hd
          · exact h2 x hx), h3, h4⟩
theorem nextD_no {l : List Form} (h : ∀ x ∈ l, isDots x = false) : nextD l = false := by
  cases l with
  | nil => rfl
  | cons y ys => exact h y (by simp)
theorem fnd_no {α : Type} {D : α → Bool} : ∀ {l : List α} {k : Nat}, (∀ x ∈ l, D x = false) → fnd D l k = -1
  | [], _, _ => rfl
  | x :: xs, k, h => by rw [fnd, h x (by simp), cond_false, fnd_no (fun y hy => h y (by simp [hy]))]
theorem drop_cons' {α : Type} {l xs : List α} {x : α} {k : Nat} (h : l.drop k = x :: xs) : l[k]? = some x ∧ l.drop (k + 1) = xs ∧ k < l.length := by
  have h1 : l[k]? = some x := by have := congrArg (fun l => l[0]?) h; simpa using this
  exact ⟨h1, by rw [← List.drop_drop, h]; rfl, (List.getElem?_eq_some_iff.1 h1).1⟩
theorem rowH_length : ∀ (vs : List (Form × Int)) (k : Nat) (rows : List (List Hit)), (rowH k vs rows).length = vs.length
  | [], _, _ => rfl
  | v :: vs, k, rows => by rw [rowH, List.length_cons, List.length_cons, rowH_length vs]
theorem rowH_get : ∀ {vs : List (Form × Int)} {k j : Nat} {rows : List (List Hit)} {v : Form × Int}, vs[j]? = some v → (rowH k vs rows)[j]? = some (Hit.mk v.1 (v.2 + 1) form0 (rows.map fun r => r.getD (k + j) hit0))
  | x :: xs, k, 0, rows, v, h => by simp at h; subst h; rfl
  | x :: xs, k, j + 1, rows, v, h => by
    rw [rowH, List.getElem?_cons_succ, rowH_get (vs := xs) (by simpa using h), Nat.add_assoc, Nat.add_comm 1 j]
structure MatS (bs : List Bind) (lits : List Form) (P F : Form) : Prop where
  kid : ∀ x ∈ P.kids, KidS x
  ih : ∀ x ∈ P.kids, isDots x = false → ∀ f ∈ F.kids, Tr (fun m => m_impl_match m bs x lits f) (oR (x.mt bs lits f))
  wp : Form.ws P.kids ≤ 2 ^ 17
  wf : Form.ws F.kids ≤ 2 ^ 17
section
variable {bs : List Bind} {lits : List Form} {P F : Form}
theorem mt_length (hS : MatS bs lits P F) {x f : Form} (hx : x ∈ P.kids) (hd : isDots x = false) {h : List Hit} (hm : x.mt bs lits f = some h) : h.length ≤ x.w := by
  rw [mt_len ((hS.kid x hx).pat hd) hm]; exact Form.vd_len lits x 0
theorem match1_tr (hS : MatS bs lits P F) {x f : Form} (hx : x ∈ P.kids) (hd : isDots x = false) (hf : f ∈ F.kids) {acc : List Hit} (ha : acc.length ≤ 2 ^ 20) :
    Tr (fun m => m_impl_match_1 m x f bs lits acc) ((x.mt bs lits f).isSome, acc ++ (x.mt bs lits f).getD []) := by
  refine Tr.step (fun m => by rw [m_impl_match_1]) (Tr.bind (hS.ih x hx hd f hf) ?_)
  have hw := Form.ws_mem hx
  have h1 := hS.wp
  refine Tr.chk (decide_eq_true ?_) Tr.val
  cases hm : x.mt bs lits f with
  | none => simp [oR]; omega
  | some h =>
    have := mt_length hS hx hd hm
    simp [oR]; omega
theorem mts_one {x f : Form} {xs fs : List Form} (hd : isDots x = false) (hn : nextD xs = false) : Form.mts bs lits (x :: xs) (f :: fs) = oapp (x.mt bs lits f) (Form.mts bs lits xs fs) := by
  rw [Form.mts_eq, hd, cond_false, hn, cond_false]
theorem oR_none {acc : List Hit} {b : Option (List Hit)} : oR (oacc acc (oapp none b)) = ([], false) := by cases b <;> rfl
theorem oR_some {acc h : List Hit} {b : Option (List Hit)} : oR (oacc acc (oapp (some h) b)) = oR (oacc (acc ++ h) b) := by rw [oacc_oapp]
theorem oR_nil {acc : List Hit} : oR (oacc acc (some [])) = (acc, true) := by simp [oR, oacc]
theorem mts_nil : Form.mts bs lits [] [] = some [] := by rw [Form.mts]; rfl
theorem match_l2_tr (hS : MatS bs lits P F) (hl : P.kids.length = F.kids.length) : ∀ (rest : List Form) (k : Nat) (acc : List Hit), P.kids.drop k = rest → k ≤ P.kids.length → (∀ x ∈ rest, isDots x = false) → acc.length + Form.ws rest ≤ 2 ^ 20 →
    Tr (fun m => m_impl_match_l2 m bs P lits F (k : Int) acc) (oR (oacc acc (Form.mts bs lits rest (F.kids.drop k))))
  | [], k, acc, hd, hk, hn, ha => by
    have : k = P.kids.length := by have := congrArg List.length hd; rw [List.length_drop] at this; simp at this; omega
    subst this
    rw [hl, List.drop_length, mts_nil, oR_nil]
    refine Tr.step (fun m => by rw [m_impl_match_l2, hl, ltN_self, cond_false]) (Tr.step (fun m => by rw [m_impl_match_j1]) Tr.val)
  | x :: xs, k, acc, hd, hk, hn, ha => by
    obtain ⟨hx, hd2, hlt⟩ := drop_cons' hd
    have hdx := hn x (by simp)
    have hy : F.kids[k]? = some F.kids[k] := List.getElem?_eq_getElem (by omega)
    have hdr : F.kids.drop k = F.kids[k] :: F.kids.drop (k + 1) := List.drop_eq_getElem_cons (by omega)
    rw [Form.ws] at ha
    refine Tr.step (fun m => by rw [m_impl_match_l2, ltN hlt, cond_true, idx_nat hx, Option.bind_some, idx_nat hy, Option.bind_some]) ?_
    refine Tr.bind (match1_tr hS (List.mem_of_getElem? hx) hdx (List.mem_of_getElem? hy) (by omega)) ?_
    rw [hdr, mts_one hdx (nextD_no (fun z hz => hn z (by simp [hz])))]
    cases hm : x.mt bs lits F.kids[k] with
    | none => rw [oR_none]; exact Tr.tt rfl Tr.val
    | some h =>
      rw [oR_some]
      have hw := mt_length hS (List.mem_of_getElem? hx) hdx hm
      refine Tr.ff rfl (Tr.eq (fun m => by rw [succN]; rfl) (match_l2_tr hS hl xs (k + 1) (acc ++ h) hd2 hlt (fun z hz => hn z (by simp [hz])) (by rw [List.length_append]; omega)))
structure RowS (P F : Form) (xs : List Form) (pr dd : Form) (tail : List Form) : Prop where
  eq : P.kids = xs ++ pr :: dd :: tail
  pre : ∀ x ∈ xs, isDots x = false
  row : isDots pr = false
  dots : isDots dd = true
  post : ∀ x ∈ tail, isDots x = false
  len : xs.length + tail.length ≤ F.kids.length
def RowS.many (F : Form) (xs tail : List Form) : Nat := F.kids.length - (xs.length + tail.length)
variable {xs tail : List Form} {pr dd : Form}
theorem RowS.plen (hR : RowS P F xs pr dd tail) : P.kids.length = xs.length + 2 + tail.length := by rw [hR.eq]; simp; omega
theorem RowS.lens (hS : MatS bs lits P F) (hR : RowS P F xs pr dd tail) : P.kids.length ≤ 2 ^ 17 ∧ F.kids.length ≤ 2 ^ 17 := ⟨Nat.le_trans (Form.ws_len _) hS.wp, Nat.le_trans (Form.ws_len _) hS.wf⟩
theorem RowS.at_pr (hR : RowS P F xs pr dd tail) : P.kids[xs.length]? = some pr := by rw [hR.eq]; simp
theorem RowS.many_eq (hS : MatS bs lits P F) (hR : RowS P F xs pr dd tail) : w64 ((F.kids.length : Int) - (w64 ((P.kids.length : Int) - 2))) = ((RowS.many F xs tail : Nat) : Int) := by
  have h1 := RowS.lens hS hR
  have h2 := hR.plen
  have h3 := hR.len
  rw [w64_in (n := (P.kids.length : Int) - 2) (by omega), w64_in (by omega)]
  unfold RowS.many; omega
theorem RowS.row_eq (hS : MatS bs lits P F) (hR : RowS P F xs pr dd tail) : w64 ((((xs.length + 1 : Nat) : Int)) - 1) = ((xs.length : Nat) : Int) := by
  have h1 := RowS.lens hS hR
  have h2 := hR.plen
  rw [w64_in (by omega)]; omega
theorem match_l10_tr (hS : MatS bs lits P F) (hR : RowS P F xs pr dd tail) : ∀ (rest : List Form) (j : Nat) (acc : List Hit), tail.drop j = rest → j ≤ tail.length → acc.length + Form.ws rest ≤ 2 ^ 20 →
    Tr (fun m => m_impl_match_l10 m bs P lits F ((xs.length + 1 : Nat) : Int) ((xs.length + 2 + j : Nat) : Int) acc) (oR (oacc acc (Form.mts bs lits rest (F.kids.drop (xs.length + RowS.many F xs tail + j)))))
  | [], j, acc, hd, hj, ha => by
    have : j = tail.length := by have := congrArg List.length hd; rw [List.length_drop] at this; simp at this; omega
    subst this
    have h2 := hR.plen
    have h3 := hR.len
    have e : xs.length + RowS.many F xs tail + tail.length = F.kids.length := by unfold RowS.many; omega
    rw [e, List.drop_length, mts_nil, oR_nil]
    exact Tr.step (fun m => by rw [m_impl_match_l10, ← h2, ltN_self, cond_false]) Tr.val
  | x :: rest, j, acc, hd, hj, ha => by
    obtain ⟨hx0, hd2, hlt⟩ := drop_cons' hd
    have h1 := RowS.lens hS hR
    have h2 := hR.plen
    have h3 := hR.len
    have hm := RowS.many_eq hS hR
    have hr := RowS.row_eq hS hR
    have hx : P.kids[xs.length + 2 + j]? = some x := by
      rw [hR.eq, List.getElem?_append_right (by omega)]
      rw [show xs.length + 2 + j - xs.length = j + 1 + 1 by omega, List.getElem?_cons_succ, List.getElem?_cons_succ]; exact hx0
    have hdx := hR.post x (List.mem_of_getElem? hx0)
    have e : xs.length + RowS.many F xs tail + tail.length = F.kids.length := by unfold RowS.many; omega
    generalize hM : RowS.many F xs tail = M at *
    have hq : xs.length + M + j < F.kids.length := by omega
    have hy : F.kids[xs.length + M + j]? = some F.kids[xs.length + M + j] := List.getElem?_eq_getElem hq
    have hdr : F.kids.drop (xs.length + M + j) = F.kids[xs.length + M + j] :: F.kids.drop (xs.length + M + j + 1) := List.drop_eq_getElem_cons hq
    have hidx : w64 ((w64 ((w64 ((w64 ((w64 (((xs.length + 1 : Nat) : Int) - 1)) + (w64 ((F.kids.length : Int) - (w64 ((P.kids.length : Int) - 2)))))) + ((xs.length + 2 + j : Nat) : Int))) - ((xs.length + 1 : Nat) : Int))) - 1) = ((xs.length + M + j : Nat) : Int) := by
      rw [hm, hr, w64_in (n := ((xs.length : Nat) : Int) + (M : Int)) (by omega), w64_in (n := ((xs.length : Nat) : Int) + (M : Int) + ((xs.length + 2 + j : Nat) : Int)) (by omega), w64_in (n := ((xs.length : Nat) : Int) + (M : Int) + ((xs.length + 2 + j : Nat) : Int) - ((xs.length + 1 : Nat) : Int)) (by omega), w64_in (by omega)]
      omega
    rw [Form.ws] at ha
    refine Tr.step (fun m => by rw [m_impl_match_l10, ltN (show xs.length + 2 + j < P.kids.length by omega), cond_true, idx_nat hx, Option.bind_some, hidx, idx_nat hy, Option.bind_some]) ?_
    refine Tr.bind (match1_tr hS (List.mem_of_getElem? hx) hdx (List.mem_of_getElem? hy) (by omega)) ?_
    have hnd : nextD rest = false := nextD_no (fun z hz => hR.post z (by rw [← hd2] at hz; exact List.mem_of_mem_drop hz))
    rw [hdr, mts_one hdx hnd]
    cases hmt : x.mt bs lits F.kids[xs.length + M + j] with
    | none => rw [oR_none]; exact Tr.tt rfl Tr.val
    | some h =>
      rw [oR_some]
      have hw := mt_length hS (List.mem_of_getElem? hx) hdx hmt
      have := match_l10_tr hS hR rest (j + 1) (acc ++ h) hd2 hlt (by rw [List.length_append]; omega)
      rw [hM] at this
      exact Tr.ff rfl (Tr.eq (fun m => by rw [succN]; rfl) this)
end
end Go.Abs
end
section
set_option linter.unusedVariables false
set_option linter.unusedSimpArgs false
namespace Go.Abs
section
variable {bs : List Bind} {lits : List Form} {P F : Form} {xs tail : List Form} {pr dd : Form}
theorem cntD_all : ∀ {l : List Form}, (∀ x ∈ l, isDots x = false) → cntD l = 0
  | [], _ => rfl
  | y :: ys, h => by rw [cntD, h y (by simp), cond_false, cntD_all (fun x hx => h x (by simp [hx]))]
theorem cntD_app : ∀ (a b : List Form), cntD (a ++ b) = cntD a + cntD b
  | [], b => by simp [cntD]
  | x :: a, b => by rw [List.cons_append, cntD, cntD, cntD_app a b]; omega
theorem set_end {α : Type} (l : List α) (z v : α) : (l ++ [z]).set (l.length : Int).toNat v = l ++ [v] := by
  rw [Int.toNat_natCast, List.set_append_right _ _ (Nat.le_refl _), Nat.sub_self]; rfl
theorem idx_last {α : Type} (l : List α) (z : α) : idx (l ++ [z]) (l.length : Int) = some z := idx_nat (by simp)
theorem match_l9_tr (v11 : Int) (g34 : List Hit) (v49 : List Form) (g50 : Int) (vs : List (Form × Int)) (rows : List (List Hit)) (inner : List Hit) (b : Bool) (hi : inner.length = vs.length) (hr : rows.length ≤ 2 ^ 20) (hv : vs.length ≤ 2 ^ 20) {v : List Hit × Bool}
    (hK : Tr (fun m => m_impl_match_l8 m bs P lits F v11 g34 v49 (w64 (g50 + 1)) (rowH 0 vs (rows ++ [inner]))) v) (g51 : List Hit) (hg : g51.length = vs.length) :
    Tr (fun m => m_impl_match_l9 m bs P lits F v11 g34 v49 g50 g51 (inner, b) 0 (rowH 0 vs rows)) v := by
  have key := drop_ind vs (fun k zs => Tr (fun m => m_impl_match_l9 m bs P lits F v11 g34 v49 g50 g51 (inner, b) (k : Int) ((rowH 0 vs (rows ++ [inner])).take k ++ (rowH 0 vs rows).drop k)) v) ?_ ?_ 0 (Nat.zero_le _)
  · simpa using key
  · have e1 : (rowH 0 vs (rows ++ [inner])).take vs.length = rowH 0 vs (rows ++ [inner]) := List.take_of_length_le (by rw [rowH_length]; exact Nat.le_refl _)
    have e2 : (rowH 0 vs rows).drop vs.length = [] := List.drop_of_length_le (by rw [rowH_length]; exact Nat.le_refl _)
    rw [e1, e2, List.append_nil]
    exact Tr.step (fun m => by rw [m_impl_match_l9, hg, ltN_self, cond_false]) hK
  · intro k x zs hk hx hd ih
    have hl1 : (rowH 0 vs (rows ++ [inner])).length = vs.length := rowH_length _ _ _
    have hl2 : (rowH 0 vs rows).length = vs.length := rowH_length _ _ _
    have ht : ((rowH 0 vs (rows ++ [inner])).take k).length = k := by rw [List.length_take, hl1]; omega
    have g1 := rowH_get (k := 0) (rows := rows) hx
    have g2 := rowH_get (k := 0) (rows := rows ++ [inner]) hx
    rw [Nat.zero_add] at g1 g2
    have hget : ((rowH 0 vs (rows ++ [inner])).take k ++ (rowH 0 vs rows).drop k)[k]? = some (Hit.mk x.1 (x.2 + 1) form0 (rows.map fun r => r.getD k hit0)) := by
      rw [List.getElem?_append_right (by omega), ht, Nat.sub_self, List.getElem?_drop, Nat.add_zero]; exact g1
    have hin : inner[k]? = some (inner.getD k hit0) := by
      have : k < inner.length := by omega
      rw [List.getD_eq_getElem?_getD, List.getElem?_eq_getElem this]; rfl
    have hset : ((rowH 0 vs (rows ++ [inner])).take k ++ (rowH 0 vs rows).drop k).set (k : Int).toNat (Hit.mk x.1 (x.2 + 1) form0 ((rows.map fun r => r.getD k hit0) ++ [inner.getD k hit0])) = (rowH 0 vs (rows ++ [inner])).take (k + 1) ++ (rowH 0 vs rows).drop (k + 1) := by
      have h3 : (rowH 0 vs rows).drop k = Hit.mk x.1 (x.2 + 1) form0 (rows.map fun r => r.getD k hit0) :: (rowH 0 vs rows).drop (k + 1) := drop_get g1
      rw [Int.toNat_natCast, List.set_append_right _ _ (by omega), ht, Nat.sub_self, h3, List.set_cons_zero, List.take_add_one, g2, List.append_assoc]
      simp
    refine Tr.step (fun m => by rw [m_impl_match_l9, hg, ltN hk, cond_true, idx_nat hget, Option.bind_some, idx_nat hin, Option.bind_some]) ?_
    refine Tr.chk (decide_eq_true (by simp [Hit.many]; omega)) ?_
    refine Tr.eq (fun m => by rw [idx_last, Option.bind_some, Option.bind_some, w64_in (by omega), succN, set_end]) ?_
    simp only [Hit.name, Hit.depth, Hit.one, Hit.many]
    rw [hset]; exact ih
theorem match_l8_tr (hS : MatS bs lits P F) (hR : RowS P F xs pr dd tail) (g34 : List Hit) (v49 : List Form) (hv : ∀ f ∈ v49, f ∈ F.kids) (hvl : v49.length ≤ F.kids.length) (J : List Hit → List Hit × Bool)
    (hJ : ∀ rows, rows.length = v49.length → (∀ r ∈ rows, r.length = (pr.vd lits 0).length) → Tr (fun m => m_impl_match_j7 m bs P lits F ((xs.length + 1 : Nat) : Int) g34 (rowH 0 (pr.vd lits 0) rows)) (J (rowH 0 (pr.vd lits 0) rows))) :
    Tr (fun m => m_impl_match_l8 m bs P lits F ((xs.length + 1 : Nat) : Int) g34 v49 0 (rowH 0 (pr.vd lits 0) [])) (match allM (fun f => pr.mt bs lits f) v49 with
      | none => ([], false)
      | some rows => J (rowH 0 (pr.vd lits 0) rows)) := by
  have h1 := RowS.lens hS hR
  have h2 := hR.plen
  have hpm := List.mem_of_getElem? hR.at_pr
  have hpp : PatS pr := (hS.kid pr hpm).pat hR.row
  have hpw := Form.ws_mem hpm
  have hwp := hS.wp
  have hvd := Form.vd_len lits pr 0
  have key := drop_ind v49 (fun k zs => ∀ rows : List (List Hit), rows.length = k → (∀ r ∈ rows, r.length = (pr.vd lits 0).length) → Tr (fun m => m_impl_match_l8 m bs P lits F ((xs.length + 1 : Nat) : Int) g34 v49 (k : Int) (rowH 0 (pr.vd lits 0) rows)) (match allM (fun f => pr.mt bs lits f) zs with
      | none => ([], false)
      | some ys => J (rowH 0 (pr.vd lits 0) (rows ++ ys)))) ?_ ?_ 0 (Nat.zero_le _) [] rfl (fun r hr => by cases hr)
  · simpa using key
  · intro rows hr hl
    rw [allM]
    simp only [List.append_nil]
    exact Tr.step (fun m => by rw [m_impl_match_l8, ltN_self, cond_false]) (hJ rows hr hl)
  · intro k x zs hk hx hd ih rows hr hl
    refine Tr.step (fun m => by rw [m_impl_match_l8, ltN hk, cond_true, idx_nat hx, Option.bind_some, RowS.row_eq hS hR, idx_nat hR.at_pr, Option.bind_some]) ?_
    refine Tr.bind (hS.ih pr hpm hR.row x (hv x (List.mem_of_getElem? hx))) ?_
    rw [allM]
    cases hm : pr.mt bs lits x with
    | none => exact Tr.tt rfl Tr.val
    | some h =>
      have hlen := mt_len hpp hm
      refine Tr.ff rfl ?_
      refine Tr.eq (fun m => rfl) (match_l9_tr (bs := bs) (lits := lits) (P := P) (F := F) ((xs.length + 1 : Nat) : Int) g34 v49 (k : Int) (pr.vd lits 0) rows h true hlen (by omega) (by omega) ?_ _ (rowH_length _ _ _))
      refine Tr.eq (fun m => by rw [w64_in (by omega), succN]) ?_
      have := ih (rows ++ [h]) (by simp [hr]) (fun r hr' => by
        rcases List.mem_append.1 hr' with hr' | hr'
        · exact hl r hr'
        · rw [List.mem_singleton.1 hr']; exact hlen)
      cases ha : allM (fun f => pr.mt bs lits f) zs with
      | none => rw [ha] at this; exact this
      | some ys =>
        rw [ha] at this
        simp only [List.append_assoc, List.singleton_append] at this
        exact this
theorem match_l6_tr (v11 : Int) (g34 : List Hit) (vs : List (Form × Int)) (hw : ∀ v ∈ vs, v.1.w ≤ 2 ^ 30) (h0 : ∀ v ∈ vs, 0 ≤ v.2 ∧ v.2 ≤ 2 ^ 30) (hl : vs.length ≤ 2 ^ 20) {r : List Hit × Bool}
    (hK : Tr (fun m => m_impl_match_j5 m bs P lits F v11 g34 (rowH 0 vs [])) r) : Tr (fun m => m_impl_match_l6 m bs P lits F v11 g34 (vs.map (·.1), vs.map (·.2)) ([] : List Hit) 0) r := by
  have key := drop_ind vs (fun k zs => ∀ g : List Hit, g.length = k → g ++ rowH k zs [] = rowH 0 vs [] → Tr (fun m => m_impl_match_l6 m bs P lits F v11 g34 (vs.map (·.1), vs.map (·.2)) g (k : Int)) r) ?_ ?_ 0 (Nat.zero_le _) [] rfl (by rw [List.nil_append, List.drop_zero])
  · exact key
  · intro g hg he
    rw [rowH, List.append_nil] at he
    rw [he]
    exact Tr.step (fun m => by rw [m_impl_match_l6, List.length_map, ltN_self, cond_false]) hK
  · intro k v zs hk hx hd ih g hg he
    have hx1 : (vs.map (·.1))[k]? = some v.1 := by rw [List.getElem?_map, hx]; rfl
    have hx2 : (vs.map (·.2))[k]? = some v.2 := by rw [List.getElem?_map, hx]; rfl
    have hm := List.mem_of_getElem? hx
    have hvw := hw v hm
    have hv0 := h0 v hm
    refine Tr.step (fun m => by rw [m_impl_match_l6, List.length_map, ltN hk, cond_true, idx_nat hx1, Option.bind_some]) (Tr.bind (copyForm_tr v.1 (by omega)) ?_)
    refine Tr.eq (fun m => by rw [idx_nat hx2, Option.bind_some, w64_in (n := v.2 + 1) (by omega), succN]) (Tr.chk (decide_eq_true (by simp; omega)) ?_)
    refine ih (g ++ [Hit.mk v.1 (v.2 + 1) form0 []]) (by simp [hg]) ?_
    rw [rowH] at he
    rw [List.append_assoc]; exact he
theorem mts_row (hS : MatS bs lits P F) (hR : RowS P F xs pr dd tail) : Form.mts bs lits (pr :: dd :: tail) (F.kids.drop xs.length) = match allM (fun f => pr.mt bs lits f) ((F.kids.drop xs.length).take (RowS.many F xs tail)) with
    | none => none
    | some rows => oapp (some (rowH 0 (pr.vd lits 0) rows)) (Form.mts bs lits tail (F.kids.drop (xs.length + RowS.many F xs tail))) := by
  have h3 := hR.len
  have hl : (F.kids.drop xs.length).length = F.kids.length - xs.length := List.length_drop
  have hN : (F.kids.drop xs.length).length + 1 - (dd :: tail).length = RowS.many F xs tail := by rw [hl, List.length_cons]; unfold RowS.many; omega
  rw [Form.mts_eq, hR.row, cond_false, show nextD (dd :: tail) = isDots dd from rfl, hR.dots, cond_true, decide_eq_false (by rw [hl, List.length_cons]; omega), cond_false, hN]
  cases allM (fun f => pr.mt bs lits f) ((F.kids.drop xs.length).take (RowS.many F xs tail)) with
  | none => rfl
  | some rows => simp only; rw [Form.mts_eq bs lits dd, hR.dots, cond_true, List.drop_drop]
theorem match_j3_tr (hS : MatS bs lits P F) (hR : RowS P F xs pr dd tail) (acc : List Hit) (ha : acc.length ≤ 2 ^ 18) : Tr (fun m => m_impl_match_j3 m bs P lits F ((xs.length + 1 : Nat) : Int) acc) (oR (oacc acc (Form.mts bs lits (pr :: dd :: tail) (F.kids.drop xs.length)))) := by
  have h1 := RowS.lens hS hR
  have h2 := hR.plen
  have h3 := hR.len
  have hpm := List.mem_of_getElem? hR.at_pr
  have hpp : PatS pr := (hS.kid pr hpm).pat hR.row
  have hpw := Form.ws_mem hpm
  have hwp := hS.wp
  have hvd := Form.vd_len lits pr 0
  have hhi := Form.vd_hi lits pr 0
  have hnn := Form.vd_nn lits pr 0
  refine Tr.step (fun m => by rw [m_impl_match_j3, RowS.row_eq hS hR, idx_nat hR.at_pr, Option.bind_some]) (Tr.bind (varsOf_tr pr lits (by omega)) ?_)
  have hvw : ∀ v ∈ pr.vd lits 0, v.1.w ≤ 2 ^ 30 := fun v hv => by
    have hm : v.1 ∈ pr.vs lits := by rw [← Form.vd_fst lits pr 0]; exact List.mem_map.2 ⟨v, hv, rfl⟩
    have := Form.vs_w lits pr v.1 hm; omega
  refine match_l6_tr (bs := bs) (lits := lits) (P := P) (F := F) _ acc (pr.vd lits 0) hvw (fun v hv => ⟨hnn v hv, by have := hhi v hv; omega⟩) (by omega) ?_
  have hsub : sub F.kids ((xs.length : Nat) : Int) ((xs.length + RowS.many F xs tail : Nat) : Int) = some ((F.kids.drop xs.length).take (RowS.many F xs tail)) := by
    have hle : xs.length + RowS.many F xs tail ≤ F.kids.length := by unfold RowS.many; omega
    unfold sub
    rw [decide_eq_true (by omega), decide_eq_true (by omega), decide_eq_true (by omega)]
    simp only [Bool.and_self, cond_true, Int.toNat_natCast, Option.some.injEq]
    rw [List.take_drop]
  have hbnd : RowS.many F xs tail ≤ F.kids.length := by unfold RowS.many; omega
  refine Tr.step (fun m => by rw [m_impl_match_j5, RowS.row_eq hS hR, RowS.many_eq hS hR, w64_in (n := ((xs.length : Nat) : Int) + ((RowS.many F xs tail : Nat) : Int)) (by omega), show ((xs.length : Nat) : Int) + ((RowS.many F xs tail : Nat) : Int) = ((xs.length + RowS.many F xs tail : Nat) : Int) by simp, hsub, Option.bind_some]) ?_
  have hj7 : ∀ rows : List (List Hit), Tr (fun m => m_impl_match_j7 m bs P lits F ((xs.length + 1 : Nat) : Int) acc (rowH 0 (pr.vd lits 0) rows)) (oR (oacc (acc ++ rowH 0 (pr.vd lits 0) rows) (Form.mts bs lits tail (F.kids.drop (xs.length + RowS.many F xs tail))))) := fun rows => by
    have hrl := rowH_length (pr.vd lits 0) 0 rows
    refine Tr.step (fun m => by rw [m_impl_match_j7]) (Tr.chk (decide_eq_true (by omega)) ?_)
    have htw : Form.ws tail ≤ Form.ws P.kids := by
      rw [hR.eq, Form.ws_append, Form.ws, Form.ws]; omega
    have := match_l10_tr hS hR tail 0 (acc ++ rowH 0 (pr.vd lits 0) rows) (by rw [List.drop_zero]) (Nat.zero_le _) (by rw [List.length_append, hrl]; omega)
    refine Tr.eq (fun m => by rw [w64_in (by omega), succN]) ?_
    exact this
  have h8 := match_l8_tr hS hR acc ((F.kids.drop xs.length).take (RowS.many F xs tail)) (fun f hf => List.mem_of_mem_drop (List.mem_of_mem_take hf)) (by rw [List.length_take, List.length_drop]; omega)
    (fun hits => oR (oacc (acc ++ hits) (Form.mts bs lits tail (F.kids.drop (xs.length + RowS.many F xs tail))))) (fun rows _ _ => hj7 rows)
  rw [mts_row hS hR]
  cases ha : allM (fun f => pr.mt bs lits f) ((F.kids.drop xs.length).take (RowS.many F xs tail)) with
  | none => rw [ha] at h8; exact h8
  | some rows => rw [ha] at h8; simp only; rw [oR_some]; exact h8
theorem match_l4_tr (hS : MatS bs lits P F) (hR : RowS P F xs pr dd tail) : ∀ (rest : List Form) (k : Nat) (acc : List Hit), xs.drop k = rest → k ≤ xs.length → acc.length + Form.ws rest ≤ 2 ^ 18 →
    Tr (fun m => m_impl_match_l4 m bs P lits F ((xs.length + 1 : Nat) : Int) (k : Int) acc) (oR (oacc acc (Form.mts bs lits (rest ++ pr :: dd :: tail) (F.kids.drop k))))
  | [], k, acc, hd, hk, ha => by
    have : k = xs.length := by have := congrArg List.length hd; rw [List.length_drop] at this; simp at this; omega
    subst this
    rw [List.nil_append]
    exact Tr.step (fun m => by rw [m_impl_match_l4, RowS.row_eq hS hR, ltN_self, cond_false]) (match_j3_tr hS hR acc (by omega))
  | x :: rest, k, acc, hd, hk, ha => by
    obtain ⟨hx0, hd2, hlt⟩ := drop_cons' hd
    have h1 := RowS.lens hS hR
    have h2 := hR.plen
    have h3 := hR.len
    have hx : P.kids[k]? = some x := by rw [hR.eq, List.getElem?_append_left hlt]; exact hx0
    have hdx := hR.pre x (List.mem_of_getElem? hx0)
    have hy : F.kids[k]? = some F.kids[k] := List.getElem?_eq_getElem (by omega)
    have hdr : F.kids.drop k = F.kids[k] :: F.kids.drop (k + 1) := List.drop_eq_getElem_cons (by omega)
    have hnd : nextD (rest ++ pr :: dd :: tail) = false := by
      cases rest with
      | nil => exact hR.row
      | cons z zs => exact hR.pre z (by have : z ∈ xs.drop (k + 1) := by rw [hd2]; simp
                                        exact List.mem_of_mem_drop this)
    rw [Form.ws] at ha
    refine Tr.step (fun m => by rw [m_impl_match_l4, RowS.row_eq hS hR, ltN hlt, cond_true, idx_nat hx, Option.bind_some, idx_nat hy, Option.bind_some]) ?_
    refine Tr.bind (match1_tr hS (List.mem_of_getElem? hx) hdx (List.mem_of_getElem? hy) (by omega)) ?_
    rw [hdr, List.cons_append, mts_one hdx hnd]
    cases hm : x.mt bs lits F.kids[k] with
    | none => rw [oR_none]; exact Tr.tt rfl Tr.val
    | some h =>
      rw [oR_some]
      have hw := mt_length hS (List.mem_of_getElem? hx) hdx hm
      exact Tr.ff rfl (Tr.eq (fun m => by rw [w64_in (by omega), succN]; rfl) (match_l4_tr hS hR rest (k + 1) (acc ++ h) hd2 hlt (by rw [List.length_append]; omega)))
end
theorem implMatch_n (bs : List Bind) (lits : List Form) (hbs : bs.length ≤ 2 ^ 36) (hbf : ∀ b ∈ bs, b.fit) (hbv : bvOk bs = true) : ∀ (n : Nat) (p : Form), p.w ≤ n → PatS p → p.fit → p.w ≤ 2 ^ 17 → ∀ f : Form, f.valid = true → f.fit → f.w ≤ 2 ^ 17 →
    Tr (fun m => m_impl_match m bs p lits f) (oR (p.mt bs lits f)) := by
  intro n
  induction n with
  | zero => intro p h; have := p.w_kids; omega
  | succ n ih =>
    intro p hp hs hpf hpb f hfv hff hfb
    have hw := p.w_kids
    have hfw := f.w_kids
    obtain ⟨q1, q2, q3, q4, q5⟩ := hs.parts
    refine Tr.step (fun m => by rw [m_impl_match]) ?_
    rw [Form.mt_eq]
    by_cases h1 : p.kind = 1
    · rw [decide_eq_true h1, cond_true]
      refine Tr.tt rfl ?_
      by_cases h2 : p.name = underN
      · rw [decide_eq_true h2, cond_true]
        exact Tr.tt rfl Tr.val
      · rw [decide_eq_false h2, cond_false]
        refine Tr.ff rfl (Tr.bind (isIn_tr lits p) ?_)
        cases inF lits p with
        | true =>
          refine Tr.tt rfl (Tr.bind (sameRef_tr bs p f hbs hbf hpf hff) ?_)
          rw [cond_true, hbv, Bool.true_and]
          have hnp : isNm p = true := by
            unfold isNm; rw [decide_eq_true h1, Bool.true_and]
            obtain ⟨d, hd⟩ := hs.ok
            exact (isOk_name hd h1).1
          have hnf : isNm f = decide (f.kind = 1) := by unfold isNm; rw [hfv, Bool.and_true]
          rw [hnp, Bool.true_and, hnf]
          cases decide (f.kind = 1) && refS bs p f <;> exact Tr.val
        | false =>
          refine Tr.ff rfl (Tr.bind (copyForm_tr p (by omega)) (Tr.bind (copyForm_tr f (by omega)) ?_))
          rw [cond_false]; exact Tr.val
    · rw [decide_eq_false h1, cond_false]
      refine Tr.ff rfl ?_
      by_cases h2 : p.kind = 2
      · rw [decide_eq_true h2, cond_true]
        refine Tr.tt rfl (Tr.bind (implFormSame_tr p f) ?_)
        cases same p f <;> exact Tr.val
      · rw [decide_eq_false h2, cond_false]
        refine Tr.ff rfl ?_
        by_cases h3 : f.kind ≠ 3
        · rw [decide_eq_true h3, cond_true]; exact Tr.tt rfl Tr.val
        · rw [decide_eq_false h3, cond_false]
          refine Tr.ff rfl (Tr.bind (dotsAt_tr p.kids) ?_)
          have hl1 := Form.ws_len p.kids
          have hl2 := Form.ws_len f.kids
          have hS : MatS bs lits p f := ⟨q4, fun x hx hd g hg => ih x (by have := Form.ws_mem hx; omega) ((q4 x hx).pat hd) (Form.fits_mem hpf.parts.2.2.2 hx) (by have := Form.ws_mem hx; omega) g (valid_kid hfv hg) (Form.fits_mem hff.parts.2.2.2 hg) (by have := Form.ws_mem hg; omega), by omega, by omega⟩
          have hacc : ∀ o : Option (List Hit), oacc [] o = o := fun o => by cases o <;> simp [oacc]
          rcases cntD_split q3 with hno | ⟨ys, dd, tail, he, e1, e2, e3⟩
          · rw [fnd_no hno]
            refine Tr.tt rfl ?_
            by_cases hlen : p.kids.length = f.kids.length
            · refine Tr.ff (lenE hlen) ?_
              have := match_l2_tr hS hlen p.kids 0 [] (by rw [List.drop_zero]) (Nat.zero_le _) hno (by simp; omega)
              rw [hacc, List.drop_zero] at this
              exact this
            · refine Tr.tt (decide_eq_true (by omega)) ?_
              have hmn : Form.mts bs lits p.kids f.kids = none := by
                cases hm : Form.mts bs lits p.kids f.kids with
                | none => rfl
                | some h =>
                  exact absurd ((mts_len hm).1 (cntD_all hno)) hlen
              rw [hmn]; exact Tr.val
          · obtain ⟨zs, pr, hz⟩ : ∃ zs pr, ys = zs ++ [pr] := by
              rcases List.eq_nil_or_concat ys with h0 | ⟨zs, pr, h0⟩
              · subst h0
                rw [he, List.nil_append, Form.kP, e2] at q2
                simp at q2
              · exact ⟨zs, pr, by simpa using h0⟩
            subst hz
            have hat : fnd isDots p.kids 0 = ((zs.length + 1 : Nat) : Int) := by
              rw [he, fnd_pre e1 e2]; simp
            rw [hat]
            have hpk : p.kids = zs ++ pr :: dd :: tail := by rw [he, List.append_assoc]; rfl
            have hplen : p.kids.length = zs.length + 2 + tail.length := by rw [hpk]; simp; omega
            refine Tr.ff (decide_eq_false (by omega)) ?_
            by_cases hlen : zs.length + tail.length ≤ f.kids.length
            · have hR : RowS p f zs pr dd tail := ⟨hpk, fun x hx => e1 x (by simp [hx]), e1 pr (by simp), e2, e3, hlen⟩
              refine Tr.ff (decide_eq_false (by rw [RowS.many_eq hS hR]; omega)) ?_
              have hzw : Form.ws zs ≤ Form.ws p.kids := by rw [hpk, Form.ws_append]; omega
              have := match_l4_tr hS hR zs 0 [] (by rw [List.drop_zero]) (Nat.zero_le _) (by simp; omega)
              rw [hacc, List.drop_zero, ← hpk] at this
              exact this
            · refine Tr.tt (decide_eq_true (by rw [w64_in (n := (p.kids.length : Int) - 2) (by omega), w64_in (by omega)]; omega)) ?_
              have hmn : Form.mts bs lits p.kids f.kids = none := by
                cases hm : Form.mts bs lits p.kids f.kids with
                | none => rfl
                | some h =>
                  have hc : cntD p.kids = 1 := by
                    rw [he, cntD_app, cntD_all e1, cntD, e2, cntD_all e3]; rfl
                  have hnd : nextD p.kids = false := by
                    rw [hpk]
                    cases zs with
                    | nil => exact e1 pr (by simp)
                    | cons z zs => exact e1 z (by simp)
                  have := (mts_len hm).2.2 hc hnd
                  omega
              rw [hmn]; exact Tr.val
end Go.Abs
end
section
set_option linter.unusedVariables false
set_option linter.unusedSimpArgs false
namespace Go.Abs
theorem implMatchPattern_tr (bs : List Bind) (p : Form) (lits : List Form) (f : Form) (hb : ∀ b ∈ bs, b.fit) (hbl : bs.length ≤ 2 ^ 36) (hp : p.fit) (hpw : p.w ≤ 2 ^ 17) (hl : Form.fits lits) (hf : f.fit) (hfw : f.w ≤ 2 ^ 17) :
    Tr (fun m => m_impl_MatchPattern m bs p lits f) (matchP bs p lits f) := by
  refine Tr.eq (fun m => by unfold m_impl_MatchPattern; rfl) (Tr.bind (implBindsValid_tr bs (by omega) hb) ?_)
  unfold matchP
  have no : Tr (fun m => m_impl_MatchPattern_j1 m bs p lits f true) (([] : List Hit), false) := Tr.step (fun m => by rw [m_impl_MatchPattern_j1]; rfl) Tr.val
  cases hbv : bvOk bs with
  | false => exact Tr.tt rfl no
  | true =>
  refine Tr.ff rfl (Tr.bind (implPatternValid_tr p lits hp (by omega) hl) ?_)
  cases hpo : patOk p lits with
  | false => exact Tr.tt rfl no
  | true =>
  refine Tr.ff rfl (Tr.bind (implFormValid_tr f hf) ?_)
  cases hfv : f.valid with
  | false => exact no
  | true =>
  refine Tr.step (fun m => by rw [m_impl_MatchPattern_j1, Bool.not_true, cond_false]) ?_
  rw [Bool.true_and, Bool.true_and, cond_true]
  refine Tr.bind (implMatch_n bs lits hbl hb hbv _ p (Nat.le_refl _) (patOk_S hpo) hp hpw f hfv hf hfw) ?_
  cases hm : p.mt bs lits f with
  | none => exact Tr.tt rfl Tr.val
  | some h => exact Tr.ff rfl Tr.val
theorem matchLaw {code : List Int} (hc : ∀ x ∈ code, 0 ≤ x ∧ x < 256) {F : Nat → Option Bool} {G : (List Bind × Form × List Form × Form) → (List Hit × Bool) → (List Hit × Bool) → Nat → Option Bool}
    (h0 : ∀ m, F m = bif decide (1048576 < (code.length : Int)) then some true else (m_spec_DrawMatchPattern m code).bind fun v3 => (m_impl_MatchPattern m v3.1 v3.2.1 v3.2.2.1 v3.2.2.2).bind fun v4 => (m_spec_MatchPattern m v3.1 v3.2.1 v3.2.2.1 v3.2.2.2).bind fun v5 => G v3 v4 v5 m)
    (h : ∀ bs p lits f, (∀ b ∈ bs, b.fit) → bs.length ≤ 1 → Dr 400 p → lits4 lits → Dr 400 f → TQ (fun m => G (bs, p, lits, f) (matchP bs p lits f) (matchP bs p lits f) m) (fun r => r = true)) : TQ F (fun r => r = true) := by
  refine codeB (fun _ => ?_) h0
  refine TQ.bind (DrawMatchPattern_tq code hc) (fun c hcc => ?_)
  obtain ⟨bs, p, lits, f⟩ := c
  obtain ⟨h1, h2, h3, h4, h5⟩ := hcc
  replace h3 : Dr 400 p := h3
  replace h5 : Dr 400 f := h5
  have h3w := h3.w
  have h5w := h5.w
  have hl := lits4.dr h4
  refine TQ.ev (implMatchPattern_tr bs p lits f h1 (by simp at h2; omega) h3.fit (by omega) hl.2.1 h5.fit (by omega)) (TQ.ev (specMatchPattern_tr bs p lits f h1 (by simp at h2; omega) h3.fit (by omega) hl.2.1 (by have := hl.1; simp at this ⊢; omega) h5.fit (by omega)) ?_)
  exact h bs p lits f h1 h2 h3 h4 h5
end Go.Abs
end
section
set_option linter.unusedVariables false
set_option linter.unusedSimpArgs false
namespace Go.Abs
theorem inF_else : inF [elseF] elseF = true := by
  unfold inF; rw [alls, same_self]; rfl
theorem elseF_pat (h : litOk [elseF] = true) : patOk elseF [elseF] = true := by
  have hv : isVarB [elseF] elseF = false := by unfold isVarB; rw [inF_else]; simp
  have e1 : elseF.vs [elseF] = [] := by rw [Form.vs_eq, hv]; rfl
  have e2 : elseF.vd [elseF] 0 = [] := by rw [Form.vd_eq, hv]; rfl
  unfold patOk
  rw [e1, e2, h]
  have a : elseF.valid = true := by decide
  have b : elseF.shp = true := by rw [Form.shp_eq]; decide
  rw [a, b]; rfl
theorem elseF_mt (bs : List Bind) (f : Form) : elseF.mt bs [elseF] f = if decide (f.kind = 1) && refS bs elseF f then some [] else none := by
  have e : elseF = Form.mk elseF.kind elseF.name elseF.n elseF.scopes elseF.kids := rfl
  have k : decide (elseF.kind = 1) = true := by decide
  have u : decide (elseF.name = underN) = false := by decide
  conv => lhs; rw [e, Form.mt]
  rw [k, u, cond_true, cond_false, ← e, inF_else, cond_true]
  cases decide (f.kind = 1) && refS bs elseF f <;> rfl
def num5 : Form := Form.mk 2 (⟨#[]⟩ : ByteArray) 5 ([] : List Int) ([] : List Form)
theorem num5_fit : num5.fit := by
  unfold num5; rw [Form.fit]; exact ⟨by decide, by decide, by decide, Form.fits_nil⟩
theorem FnMatchLiteral_law (code : List Int) (hc : ∀ x ∈ code, 0 ≤ x ∧ x < 256) : TQ (fun m => m_laws_FnMatchLiteral m code) (fun r => r = true) := by
  refine matchLaw hc (fun m => by unfold m_laws_FnMatchLiteral; rfl) (fun bs p lits f hb hbl hp hl hf => TQ.same ?_)
  have hpw := hp.w
  have hll := lits4.dr hl
  have ex : Tr (fun m => m_laws_FnMatchLiteral_j1 m (bs, p, lits, f) (matchP bs p lits f) (matchP bs p lits f) true) true := Tr.step (fun m => by rw [m_laws_FnMatchLiteral_j1, cond_true]) (by rw [decide_eq_true rfl]; exact Tr.val)
  refine Tr.ff (decide_eq_false (fun h => h rfl)) (Tr.bind (implBindsValid_tr bs (by omega) hb) ?_)
  cases hbv : bvOk bs with
  | false => exact Tr.tt rfl ex
  | true =>
  refine Tr.ff rfl (Tr.bind (implPatternValid_tr p lits hp.fit (by omega) hll.2.1) ?_)
  cases hpo : patOk p lits with
  | false => exact ex
  | true =>
  refine Tr.step (fun m => by rw [m_laws_FnMatchLiteral_j1, Bool.not_true, cond_false]) ?_
  rcases hl with rfl | rfl
  · have hlo : litOk [elseF] = true := by unfold patOk at hpo; simp only [Bool.and_eq_true] at hpo; exact hpo.2.1
    have hep := elseF_pat hlo
    have hef : elseF.fit := elseF_dr.fit
    have hew : elseF.w ≤ 2 ^ 17 := by decide
    have hen : isNm elseF = true := by decide
    have hk : decide (elseF.kind = 1) = true := by decide
    have m1 : matchP bs elseF [elseF] elseF = ([], refS bs elseF elseF) := by
      unfold matchP
      have a : elseF.valid = true := by decide
      rw [hbv, hep, a, elseF_mt, hk]
      cases refS bs elseF elseF <;> rfl
    have m2 : matchP bs elseF [elseF] num5 = ([], false) := by
      unfold matchP
      have a : num5.valid = true := by decide
      have c : decide (num5.kind = 1) = false := by decide
      rw [hbv, hep, a, elseF_mt, c]
      rfl
    refine Tr.step (fun m => by rw [m_laws_FnMatchLiteral_l2]) (Tr.tt (by simp) ?_)
    have i0 : idx [elseF] 0 = some elseF := rfl
    refine Tr.eq (fun m => by rw [i0, Option.bind_some, Option.bind_some]) (Tr.bind (implMatchPattern_tr bs elseF [elseF] elseF hb (by omega) hef hew hll.2.1 hef hew) ?_)
    refine Tr.eq (fun m => by rw [Option.bind_some]; rfl) (Tr.bind (implMatchPattern_tr bs elseF [elseF] num5 hb (by omega) hef hew hll.2.1 num5_fit (by decide)) ?_)
    refine Tr.eq (fun m => by rw [Option.bind_some, Option.bind_some]) (Tr.bind (sameRef_tr bs elseF elseF (by omega) hb hef hef) ?_)
    rw [hbv, hen, m1, m2]
    refine Tr.ff (by simp) (Tr.ff rfl (Tr.ff rfl (Tr.step (fun m => by rw [m_laws_FnMatchLiteral_l2]) (Tr.ff (by simp) Tr.val))))
  · exact Tr.step (fun m => by rw [m_laws_FnMatchLiteral_l2]) (Tr.ff (by simp) Tr.val)
end Go.Abs
end
