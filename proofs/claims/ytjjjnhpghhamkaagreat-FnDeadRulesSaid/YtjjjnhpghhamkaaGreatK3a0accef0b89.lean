/- A part of the proof: what the functions that the law calls answer, as pure values. -/
import Derived.Test.YtjjjnhpghhamkaaGreatK07f4536f4c0e
import Derived.Test.YtjjjnhpghhamkaaGreatK538f51ad5e1b
import Derived.Test.YtjjjnhpghhamkaaGreatKc62a6f70b8f5
import Derived.Test.YtjjjnhpghhamkaaGreatKd29eaf065d56
import Derived.Test.YtjjjnhpghhamkaaGreatKd3a9ca3717a2
set_option linter.unusedSimpArgs false
set_option linter.unusedVariables false
section
set_option linter.unusedVariables false
set_option linter.unusedSimpArgs false
namespace Go.Abs
theorem FindName_tr (l : List Bind) (f : Form) (hl : l.length ≤ 2 ^ 36) (hb : ∀ b ∈ l, b.fit) (hf : f.fit) (hv : bvOk l = true) (hn : isNm f = true) :
    Tr (fun m => m_impl_FindName m l f) (bif decide ((refB l f).2 = 1) then (bAt l (refB l f).1).id else 0, (refB l f).2) := by
  refine Tr.eq (fun m => by unfold m_impl_FindName; rfl) (Tr.bind (implBindsValid_tr l (by omega) hb) ?_)
  rw [hv]
  refine Tr.ff rfl (Tr.bind (implIsName_tr f hf) ?_)
  rw [hn]
  refine Tr.step (fun m => by rw [m_impl_FindName_j1, Bool.not_true, cond_false]) (Tr.bind (bound_tr l f hl) ?_)
  rcases refB_cases l f with ⟨i, ha, i0, i1⟩ | ha | ha
  · rw [ha]
    exact Tr.ff (by simp) (Tr.eq (fun m => by rw [bAt_idx i0 i1, Option.bind_some]; rfl) Tr.val)
  · rw [ha]; exact Tr.tt (by simp) Tr.val
  · rw [ha]; exact Tr.tt (by simp) Tr.val
theorem sameRef_tr (l : List Bind) (a b : Form) (hl : l.length ≤ 2 ^ 36) (hb : ∀ b ∈ l, b.fit) (ha : a.fit) (hbf : b.fit) :
    Tr (fun m => m_impl_SameReference m l a b) (bvOk l && (isNm a && (isNm b && refS l a b))) := by
  refine Tr.eq (fun m => by unfold m_impl_SameReference; rfl) (Tr.bind (implBindsValid_tr l (by omega) hb) ?_)
  have no : Tr (fun m => m_impl_SameReference_j1 m l a b true) false := Tr.step (fun m => by rw [m_impl_SameReference_j1, cond_true]) Tr.val
  cases hv : bvOk l with
  | false => exact Tr.tt rfl no
  | true =>
  refine Tr.ff rfl (Tr.bind (implIsName_tr a ha) ?_)
  cases hna : isNm a with
  | false => exact Tr.tt rfl no
  | true =>
  refine Tr.ff rfl (Tr.bind (implIsName_tr b hbf) ?_)
  cases hnb : isNm b with
  | false => exact no
  | true =>
  refine Tr.step (fun m => by rw [m_impl_SameReference_j1, Bool.not_true, cond_false]) (Tr.bind (FindName_tr l a hl hb ha hv hna) (Tr.bind (FindName_tr l b hl hb hbf hv hnb) ?_))
  rw [Bool.true_and, Bool.true_and, Bool.true_and]
  unfold refS
  rcases refB_cases l a with ⟨i, ea, i0, i1⟩ | ea | ea <;> rcases refB_cases l b with ⟨j, eb, j0, j1⟩ | eb | eb <;> rw [ea, eb]
  · refine Tr.tt rfl (Tr.tt rfl ?_)
    by_cases h : (bAt l i).id = (bAt l j).id
    · exact Tr.tt (by simpa using h) (by simpa [h] using Tr.val)
    · exact Tr.ff (by simpa using h) (Tr.ff (by simp) (by simpa [h] using Tr.val))
  · exact Tr.tt rfl (Tr.ff (by simp) (Tr.ff (by simp) (by simpa using Tr.val)))
  · exact Tr.tt rfl (Tr.ff (by simp) (Tr.ff (by simp) (by simpa using Tr.val)))
  · exact Tr.ff (by simp) (Tr.ff (by simp) (by simpa using Tr.val))
  · exact Tr.ff (by simp) (Tr.ff (by simp) (by simpa using Tr.val))
  · exact Tr.ff (by simp) (Tr.ff (by simp) (by simpa using Tr.val))
  · exact Tr.ff (by simp) (Tr.tt rfl (Tr.ff (by simp) (by simpa using Tr.val)))
  · exact Tr.ff (by simp) (Tr.tt rfl (Tr.ff (by simp) (by simpa using Tr.val)))
  · exact Tr.ff (by simp) (Tr.tt rfl (Tr.tt rfl (by simpa using Tr.val)))
def oR (o : Option (List Hit)) : List Hit × Bool := (o.getD [], o.isSome)
def oacc (acc : List Hit) (o : Option (List Hit)) : Option (List Hit) := o.map (acc ++ ·)
theorem oacc_oapp (acc : List Hit) (a b : Option (List Hit)) : oacc acc (oapp a b) = match a with
    | none => none
    | some h => oacc (acc ++ h) b := by
  cases a <;> cases b <;> simp [oacc, oapp]
theorem dotsAt_tr (l : List Form) : Tr (fun m => m_impl_dotsAt m l) (fnd isDots l 0) := by
  refine Tr.eq (fun m => by unfold m_impl_dotsAt; rfl) (Tr.bind ?_ Tr.val)
  refine Tr.eq (fun m => by unfold m_slices_IndexFunc_Form_dotsAt_1; rfl) ?_
  exact loop_find (L := fun m i => m_slices_IndexFunc_Form_dotsAt_1_l1 m l i) (E := fun m y => m_impl_dotsAt_1 m y) (fun m i => by rw [m_slices_IndexFunc_Form_dotsAt_1_l1]) (fun y _ => Tr.eq (fun m => by unfold m_impl_dotsAt_1; rfl) (Tr.bind (named_tr _ _) Tr.val))
theorem fnd_pre {α : Type} {D : α → Bool} : ∀ {xs : List α} {y : α} {zs : List α} {k : Nat}, (∀ x ∈ xs, D x = false) → D y = true → fnd D (xs ++ y :: zs) k = ((k + xs.length : Nat) : Int)
  | [], y, zs, k, _, hy => by rw [List.nil_append, fnd, hy, cond_true]; simp
  | x :: xs, y, zs, k, h, hy => by
    rw [List.cons_append, fnd, h x (by simp), cond_false, fnd_pre (fun z hz => h z (by simp [hz])) hy, List.length_cons]
    congr 1; omega
theorem cntD_zero : ∀ {l : List Form}, cntD l = 0 → ∀ x ∈ l, isDots x = false
  | y :: ys, h, x, hx => by
    rw [cntD] at h
    rcases List.mem_cons.1 hx with rfl | hx
    · cases hd : isDots x with
      | false => rfl
      | true => rw [hd] at h; simp at h
    · exact cntD_zero (by omega) x hx
theorem cntD_split : ∀ {l : List Form}, cntD l ≤ 1 → (∀ x ∈ l, isDots x = false) ∨ ∃ xs y zs, l = xs ++ y :: zs ∧ (∀ x ∈ xs, isDots x = false) ∧ isDots y = true ∧ ∀ x ∈ zs, isDots x = false
  | [], _ => .inl (fun x hx => by cases hx)
  | y :: ys, h => by
    rw [cntD] at h
    cases hd : isDots y with
    | true =>
      rw [hd, cond_true] at h
      exact .inr ⟨[], y, ys, rfl, (fun x hx => by cases hx), hd, cntD_zero (by omega)⟩
    | false =>
      rw [hd, cond_false] at h
      rcases cntD_split (l := ys) (by omega) with h1 | ⟨xs, z, zs, rfl, h2, h3, h4⟩
      · exact .inl (fun x hx => by
          rcases List.mem_cons.1 hx with rfl | hx
          · exact hd
          · exact h1 x hx)
      · exact .inr ⟨y :: xs, z, zs, rfl, (fun x hx => by
          rcases List.mem_cons.1 hx with rfl | hx
          · exact hd
          · exact h2 x hx), h3, h4⟩
theorem nextD_no {l : List Form} (h : ∀ x ∈ l, isDots x = false) : nextD l = false := by
  cases l with
  | nil => rfl
  | cons y ys => exact h y (by simp)
theorem fnd_no {α : Type} {D : α → Bool} : ∀ {l : List α} {k : Nat}, (∀ x ∈ l, D x = false) → fnd D l k = -1
  | [], _, _ => rfl
  | x :: xs, k, h => by rw [fnd, h x (by simp), cond_false, fnd_no (fun y hy => h y (by simp [hy]))]
theorem drop_cons' {α : Type} {l xs : List α} {x : α} {k : Nat} (h : l.drop k = x :: xs) : l[k]? = some x ∧ l.drop (k + 1) = xs ∧ k < l.length := by
  have h1 : l[k]? = some x := by have := congrArg (fun l => l[0]?) h; simpa using this
  exact ⟨h1, by rw [← List.drop_drop, h]; rfl, (List.getElem?_eq_some_iff.1 h1).1⟩
theorem rowH_length : ∀ (vs : List (Form × Int)) (k : Nat) (rows : List (List Hit)), (rowH k vs rows).length = vs.length
  | [], _, _ => rfl
  | v :: vs, k, rows => by rw [rowH, List.length_cons, List.length_cons, rowH_length vs]
theorem rowH_get : ∀ {vs : List (Form × Int)} {k j : Nat} {rows : List (List Hit)} {v : Form × Int}, vs[j]? = some v → (rowH k vs rows)[j]? = some (Hit.mk v.1 (v.2 + 1) form0 (rows.map fun r => r.getD (k + j) hit0))
  | x :: xs, k, 0, rows, v, h => by simp at h; subst h; rfl
  | x :: xs, k, j + 1, rows, v, h => by
    rw [rowH, List.getElem?_cons_succ, rowH_get (vs := xs) (by simpa using h), Nat.add_assoc, Nat.add_comm 1 j]
structure MatS (bs : List Bind) (lits : List Form) (P F : Form) : Prop where
  kid : ∀ x ∈ P.kids, KidS x
  ih : ∀ x ∈ P.kids, isDots x = false → ∀ f ∈ F.kids, Tr (fun m => m_impl_match m bs x lits f) (oR (x.mt bs lits f))
  wp : Form.ws P.kids ≤ 2 ^ 17
  wf : Form.ws F.kids ≤ 2 ^ 17
section
variable {bs : List Bind} {lits : List Form} {P F : Form}
theorem mt_length (hS : MatS bs lits P F) {x f : Form} (hx : x ∈ P.kids) (hd : isDots x = false) {h : List Hit} (hm : x.mt bs lits f = some h) : h.length ≤ x.w := by
  rw [mt_len ((hS.kid x hx).pat hd) hm]; exact Form.vd_len lits x 0
theorem match1_tr (hS : MatS bs lits P F) {x f : Form} (hx : x ∈ P.kids) (hd : isDots x = false) (hf : f ∈ F.kids) {acc : List Hit} (ha : acc.length ≤ 2 ^ 20) :
    Tr (fun m => m_impl_match_1 m x f bs lits acc) ((x.mt bs lits f).isSome, acc ++ (x.mt bs lits f).getD []) := by
  refine Tr.step (fun m => by rw [m_impl_match_1]) (Tr.bind (hS.ih x hx hd f hf) ?_)
  have hw := Form.ws_mem hx
  have h1 := hS.wp
  refine Tr.chk (decide_eq_true ?_) Tr.val
  cases hm : x.mt bs lits f with
  | none => simp [oR]; omega
  | some h =>
    have := mt_length hS hx hd hm
    simp [oR]; omega
theorem mts_one {x f : Form} {xs fs : List Form} (hd : isDots x = false) (hn : nextD xs = false) : Form.mts bs lits (x :: xs) (f :: fs) = oapp (x.mt bs lits f) (Form.mts bs lits xs fs) := by
  rw [Form.mts_eq, hd, cond_false, hn, cond_false]
theorem oR_none {acc : List Hit} {b : Option (List Hit)} : oR (oacc acc (oapp none b)) = ([], false) := by cases b <;> rfl
theorem oR_some {acc h : List Hit} {b : Option (List Hit)} : oR (oacc acc (oapp (some h) b)) = oR (oacc (acc ++ h) b) := by rw [oacc_oapp]
theorem oR_nil {acc : List Hit} : oR (oacc acc (some [])) = (acc, true) := by simp [oR, oacc]
theorem mts_nil : Form.mts bs lits [] [] = some [] := by rw [Form.mts]; rfl
theorem match_l2_tr (hS : MatS bs lits P F) (hl : P.kids.length = F.kids.length) : ∀ (rest : List Form) (k : Nat) (acc : List Hit), P.kids.drop k = rest → k ≤ P.kids.length → (∀ x ∈ rest, isDots x = false) → acc.length + Form.ws rest ≤ 2 ^ 20 →
    Tr (fun m => m_impl_match_l2 m bs P lits F (k : Int) acc) (oR (oacc acc (Form.mts bs lits rest (F.kids.drop k))))
  | [], k, acc, hd, hk, hn, ha => by
    have : k = P.kids.length := by have := congrArg List.length hd; rw [List.length_drop] at this; simp at this; omega
    subst this
    rw [hl, List.drop_length, mts_nil, oR_nil]
    refine Tr.step (fun m => by rw [m_impl_match_l2, hl, ltN_self, cond_false]) (Tr.step (fun m => by rw [m_impl_match_j1]) Tr.val)
  | x :: xs, k, acc, hd, hk, hn, ha => by
    obtain ⟨hx, hd2, hlt⟩ := drop_cons' hd
    have hdx := hn x (by simp)
    have hy : F.kids[k]? = some F.kids[k] := List.getElem?_eq_getElem (by omega)
    have hdr : F.kids.drop k = F.kids[k] :: F.kids.drop (k + 1) := List.drop_eq_getElem_cons (by omega)
    rw [Form.ws] at ha
    refine Tr.step (fun m => by rw [m_impl_match_l2, ltN hlt, cond_true, idx_nat hx, Option.bind_some, idx_nat hy, Option.bind_some]) ?_
    refine Tr.bind (match1_tr hS (List.mem_of_getElem? hx) hdx (List.mem_of_getElem? hy) (by omega)) ?_
    rw [hdr, mts_one hdx (nextD_no (fun z hz => hn z (by simp [hz])))]
    cases hm : x.mt bs lits F.kids[k] with
    | none => rw [oR_none]; exact Tr.tt rfl Tr.val
    | some h =>
      rw [oR_some]
      have hw := mt_length hS (List.mem_of_getElem? hx) hdx hm
      refine Tr.ff rfl (Tr.eq (fun m => by rw [succN]; rfl) (match_l2_tr hS hl xs (k + 1) (acc ++ h) hd2 hlt (fun z hz => hn z (by simp [hz])) (by rw [List.length_append]; omega)))
structure RowS (P F : Form) (xs : List Form) (pr dd : Form) (tail : List Form) : Prop where
  eq : P.kids = xs ++ pr :: dd :: tail
  pre : ∀ x ∈ xs, isDots x = false
  row : isDots pr = false
  dots : isDots dd = true
  post : ∀ x ∈ tail, isDots x = false
  len : xs.length + tail.length ≤ F.kids.length
def RowS.many (F : Form) (xs tail : List Form) : Nat := F.kids.length - (xs.length + tail.length)
variable {xs tail : List Form} {pr dd : Form}
theorem RowS.plen (hR : RowS P F xs pr dd tail) : P.kids.length = xs.length + 2 + tail.length := by rw [hR.eq]; simp; omega
theorem RowS.lens (hS : MatS bs lits P F) (hR : RowS P F xs pr dd tail) : P.kids.length ≤ 2 ^ 17 ∧ F.kids.length ≤ 2 ^ 17 := ⟨Nat.le_trans (Form.ws_len _) hS.wp, Nat.le_trans (Form.ws_len _) hS.wf⟩
theorem RowS.at_pr (hR : RowS P F xs pr dd tail) : P.kids[xs.length]? = some pr := by rw [hR.eq]; simp
theorem RowS.many_eq (hS : MatS bs lits P F) (hR : RowS P F xs pr dd tail) : w64 ((F.kids.length : Int) - (w64 ((P.kids.length : Int) - 2))) = ((RowS.many F xs tail : Nat) : Int) := by
  have h1 := RowS.lens hS hR
  have h2 := hR.plen
  have h3 := hR.len
  rw [w64_in (n := (P.kids.length : Int) - 2) (by omega), w64_in (by omega)]
  unfold RowS.many; omega
theorem RowS.row_eq (hS : MatS bs lits P F) (hR : RowS P F xs pr dd tail) : w64 ((((xs.length + 1 : Nat) : Int)) - 1) = ((xs.length : Nat) : Int) := by
  have h1 := RowS.lens hS hR
  have h2 := hR.plen
  rw [w64_in (by omega)]; omega
theorem match_l10_tr (hS : MatS bs lits P F) (hR : RowS P F xs pr dd tail) : ∀ (rest : List Form) (j : Nat) (acc : List Hit), tail.drop j = rest → j ≤ tail.length → acc.length + Form.ws rest ≤ 2 ^ 20 →
    Tr (fun m => m_impl_match_l10 m bs P lits F ((xs.length + 1 : Nat) : Int) ((xs.length + 2 + j : Nat) : Int) acc) (oR (oacc acc (Form.mts bs lits rest (F.kids.drop (xs.length + RowS.many F xs tail + j)))))
  | [], j, acc, hd, hj, ha => by
    have : j = tail.length := by have := congrArg List.length hd; rw [List.length_drop] at this; simp at this; omega
    subst this
    have h2 := hR.plen
    have h3 := hR.len
    have e : xs.length + RowS.many F xs tail + tail.length = F.kids.length := by unfold RowS.many; omega
    rw [e, List.drop_length, mts_nil, oR_nil]
    exact Tr.step (fun m => by rw [m_impl_match_l10, ← h2, ltN_self, cond_false]) Tr.val
  | x :: rest, j, acc, hd, hj, ha => by
    obtain ⟨hx0, hd2, hlt⟩ := drop_cons' hd
    have h1 := RowS.lens hS hR
    have h2 := hR.plen
    have h3 := hR.len
    have hm := RowS.many_eq hS hR
    have hr := RowS.row_eq hS hR
    have hx : P.kids[xs.length + 2 + j]? = some x := by
      rw [hR.eq, List.getElem?_append_right (by omega)]
      rw [show xs.length + 2 + j - xs.length = j + 1 + 1 by omega, List.getElem?_cons_succ, List.getElem?_cons_succ]; exact hx0
    have hdx := hR.post x (List.mem_of_getElem? hx0)
    have e : xs.length + RowS.many F xs tail + tail.length = F.kids.length := by unfold RowS.many; omega
    generalize hM : RowS.many F xs tail = M at *
    have hq : xs.length + M + j < F.kids.length := by omega
    have hy : F.kids[xs.length + M + j]? = some F.kids[xs.length + M + j] := List.getElem?_eq_getElem hq
    have hdr : F.kids.drop (xs.length + M + j) = F.kids[xs.length + M + j] :: F.kids.drop (xs.length + M + j + 1) := List.drop_eq_getElem_cons hq
    have hidx : w64 ((w64 ((w64 ((w64 ((w64 (((xs.length + 1 : Nat) : Int) - 1)) + (w64 ((F.kids.length : Int) - (w64 ((P.kids.length : Int) - 2)))))) + ((xs.length + 2 + j : Nat) : Int))) - ((xs.length + 1 : Nat) : Int))) - 1) = ((xs.length + M + j : Nat) : Int) := by
      rw [hm, hr, w64_in (n := ((xs.length : Nat) : Int) + (M : Int)) (by omega), w64_in (n := ((xs.length : Nat) : Int) + (M : Int) + ((xs.length + 2 + j : Nat) : Int)) (by omega), w64_in (n := ((xs.length : Nat) : Int) + (M : Int) + ((xs.length + 2 + j : Nat) : Int) - ((xs.length + 1 : Nat) : Int)) (by omega), w64_in (by omega)]
      omega
    rw [Form.ws] at ha
    refine Tr.step (fun m => by rw [m_impl_match_l10, ltN (show xs.length + 2 + j < P.kids.length by omega), cond_true, idx_nat hx, Option.bind_some, hidx, idx_nat hy, Option.bind_some]) ?_
    refine Tr.bind (match1_tr hS (List.mem_of_getElem? hx) hdx (List.mem_of_getElem? hy) (by omega)) ?_
    have hnd : nextD rest = false := nextD_no (fun z hz => hR.post z (by rw [← hd2] at hz; exact List.mem_of_mem_drop hz))
    rw [hdr, mts_one hdx hnd]
    cases hmt : x.mt bs lits F.kids[xs.length + M + j] with
    | none => rw [oR_none]; exact Tr.tt rfl Tr.val
    | some h =>
      rw [oR_some]
      have hw := mt_length hS (List.mem_of_getElem? hx) hdx hmt
      have := match_l10_tr hS hR rest (j + 1) (acc ++ h) hd2 hlt (by rw [List.length_append]; omega)
      rw [hM] at this
      exact Tr.ff rfl (Tr.eq (fun m => by rw [succN]; rfl) this)
end
end Go.Abs
end
section
set_option linter.unusedVariables false
set_option linter.unusedSimpArgs false
namespace Go.Abs
section
variable {bs : List Bind} {lits : List Form} {P F : Form} {xs tail : List Form} {pr dd : Form}
theorem cntD_all : ∀ {l : List Form}, (∀ x ∈ l, isDots x = false) → cntD l = 0
  | [], _ => rfl
  | y :: ys, h => by rw [cntD, h y (by simp), cond_false, cntD_all (fun x hx => h x (by simp [hx]))]
theorem cntD_app : ∀ (a b : List Form), cntD (a ++ b) = cntD a + cntD b
  | [], b => by simp [cntD]
  | x :: a, b => by rw [List.cons_append, cntD, cntD, cntD_app a b]; omega
theorem set_end {α : Type} (l : List α) (z v : α) : (l ++ [z]).set (l.length : Int).toNat v = l ++ [v] := by
  rw [Int.toNat_natCast, List.set_append_right _ _ (Nat.le_refl _), Nat.sub_self]; rfl
theorem idx_last {α : Type} (l : List α) (z : α) : idx (l ++ [z]) (l.length : Int) = some z := idx_nat (by simp)
theorem match_l9_tr (v11 : Int) (g34 : List Hit) (v49 : List Form) (g50 : Int) (vs : List (Form × Int)) (rows : List (List Hit)) (inner : List Hit) (b : Bool) (hi : inner.length = vs.length) (hr : rows.length ≤ 2 ^ 20) (hv : vs.length ≤ 2 ^ 20) {v : List Hit × Bool}
    (hK : Tr (fun m => m_impl_match_l8 m bs P lits F v11 g34 v49 (w64 (g50 + 1)) (rowH 0 vs (rows ++ [inner]))) v) (g51 : List Hit) (hg : g51.length = vs.length) :
    Tr (fun m => m_impl_match_l9 m bs P lits F v11 g34 v49 g50 g51 (inner, b) 0 (rowH 0 vs rows)) v := by
  have key := drop_ind vs (fun k zs => Tr (fun m => m_impl_match_l9 m bs P lits F v11 g34 v49 g50 g51 (inner, b) (k : Int) ((rowH 0 vs (rows ++ [inner])).take k ++ (rowH 0 vs rows).drop k)) v) ?_ ?_ 0 (Nat.zero_le _)
  · simpa using key
  · have e1 : (rowH 0 vs (rows ++ [inner])).take vs.length = rowH 0 vs (rows ++ [inner]) := List.take_of_length_le (by rw [rowH_length]; exact Nat.le_refl _)
    have e2 : (rowH 0 vs rows).drop vs.length = [] := List.drop_of_length_le (by rw [rowH_length]; exact Nat.le_refl _)
    rw [e1, e2, List.append_nil]
    exact Tr.step (fun m => by rw [m_impl_match_l9, hg, ltN_self, cond_false]) hK
  · intro k x zs hk hx hd ih
    have hl1 : (rowH 0 vs (rows ++ [inner])).length = vs.length := rowH_length _ _ _
    have hl2 : (rowH 0 vs rows).length = vs.length := rowH_length _ _ _
    have ht : ((rowH 0 vs (rows ++ [inner])).take k).length = k := by rw [List.length_take, hl1]; omega
    have g1 := rowH_get (k := 0) (rows := rows) hx
    have g2 := rowH_get (k := 0) (rows := rows ++ [inner]) hx
    rw [Nat.zero_add] at g1 g2
    have hget : ((rowH 0 vs (rows ++ [inner])).take k ++ (rowH 0 vs rows).drop k)[k]? = some (Hit.mk x.1 (x.2 + 1) form0 (rows.map fun r => r.getD k hit0)) := by
      rw [List.getElem?_append_right (by omega), ht, Nat.sub_self, List.getElem?_drop, Nat.add_zero]; exact g1
    have hin : inner[k]? = some (inner.getD k hit0) := by
      have : k < inner.length := by omega
      rw [List.getD_eq_getElem?_getD, List.getElem?_eq_getElem this]; rfl
    have hset : ((rowH 0 vs (rows ++ [inner])).take k ++ (rowH 0 vs rows).drop k).set (k : Int).toNat (Hit.mk x.1 (x.2 + 1) form0 ((rows.map fun r => r.getD k hit0) ++ [inner.getD k hit0])) = (rowH 0 vs (rows ++ [inner])).take (k + 1) ++ (rowH 0 vs rows).drop (k + 1) := by
      have h3 : (rowH 0 vs rows).drop k = Hit.mk x.1 (x.2 + 1) form0 (rows.map fun r => r.getD k hit0) :: (rowH 0 vs rows).drop (k + 1) := drop_get g1
      rw [Int.toNat_natCast, List.set_append_right _ _ (by omega), ht, Nat.sub_self, h3, List.set_cons_zero, List.take_add_one, g2, List.append_assoc]
      simp
    refine Tr.step (fun m => by rw [m_impl_match_l9, hg, ltN hk, cond_true, idx_nat hget, Option.bind_some, idx_nat hin, Option.bind_some]) ?_
    refine Tr.chk (decide_eq_true (by simp [Hit.many]; omega)) ?_
    refine Tr.eq (fun m => by rw [idx_last, Option.bind_some, Option.bind_some, w64_in (by omega), succN, set_end]) ?_
    simp only [Hit.name, Hit.depth, Hit.one, Hit.many]
    rw [hset]; exact ih
theorem match_l8_tr (hS : MatS bs lits P F) (hR : RowS P F xs pr dd tail) (g34 : List Hit) (v49 : List Form) (hv : ∀ f ∈ v49, f ∈ F.kids) (hvl : v49.length ≤ F.kids.length) (J : List Hit → List Hit × Bool)
    (hJ : ∀ rows, rows.length = v49.length → (∀ r ∈ rows, r.length = (pr.vd lits 0).length) → Tr (fun m => m_impl_match_j7 m bs P lits F ((xs.length + 1 : Nat) : Int) g34 (rowH 0 (pr.vd lits 0) rows)) (J (rowH 0 (pr.vd lits 0) rows))) :
    Tr (fun m => m_impl_match_l8 m bs P lits F ((xs.length + 1 : Nat) : Int) g34 v49 0 (rowH 0 (pr.vd lits 0) [])) (match allM (fun f => pr.mt bs lits f) v49 with
      | none => ([], false)
      | some rows => J (rowH 0 (pr.vd lits 0) rows)) := by
  have h1 := RowS.lens hS hR
  have h2 := hR.plen
  have hpm := List.mem_of_getElem? hR.at_pr
  have hpp : PatS pr := (hS.kid pr hpm).pat hR.row
  have hpw := Form.ws_mem hpm
  have hwp := hS.wp
  have hvd := Form.vd_len lits pr 0
  have key := drop_ind v49 (fun k zs => ∀ rows : List (List Hit), rows.length = k → (∀ r ∈ rows, r.length = (pr.vd lits 0).length) → Tr (fun m => m_impl_match_l8 m bs P lits F ((xs.length + 1 : Nat) : Int) g34 v49 (k : Int) (rowH 0 (pr.vd lits 0) rows)) (match allM (fun f => pr.mt bs lits f) zs with
      | none => ([], false)
      | some ys => J (rowH 0 (pr.vd lits 0) (rows ++ ys)))) ?_ ?_ 0 (Nat.zero_le _) [] rfl (fun r hr => by cases hr)
  · simpa using key
  · intro rows hr hl
    rw [allM]
    simp only [List.append_nil]
    exact Tr.step (fun m => by rw [m_impl_match_l8, ltN_self, cond_false]) (hJ rows hr hl)
  · intro k x zs hk hx hd ih rows hr hl
    refine Tr.step (fun m => by rw [m_impl_match_l8, ltN hk, cond_true, idx_nat hx, Option.bind_some, RowS.row_eq hS hR, idx_nat hR.at_pr, Option.bind_some]) ?_
    refine Tr.bind (hS.ih pr hpm hR.row x (hv x (List.mem_of_getElem? hx))) ?_
    rw [allM]
    cases hm : pr.mt bs lits x with
    | none => exact Tr.tt rfl Tr.val
    | some h =>
      have hlen := mt_len hpp hm
      refine Tr.ff rfl ?_
      refine Tr.eq (fun m => rfl) (match_l9_tr (bs := bs) (lits := lits) (P := P) (F := F) ((xs.length + 1 : Nat) : Int) g34 v49 (k : Int) (pr.vd lits 0) rows h true hlen (by omega) (by omega) ?_ _ (rowH_length _ _ _))
      refine Tr.eq (fun m => by rw [w64_in (by omega), succN]) ?_
      have := ih (rows ++ [h]) (by simp [hr]) (fun r hr' => by
        rcases List.mem_append.1 hr' with hr' | hr'
        · exact hl r hr'
        · rw [List.mem_singleton.1 hr']; exact hlen)
      cases ha : allM (fun f => pr.mt bs lits f) zs with
      | none => rw [ha] at this; exact this
      | some ys =>
        rw [ha] at this
        simp only [List.append_assoc, List.singleton_append] at this
        exact this
theorem match_l6_tr (v11 : Int) (g34 : List Hit) (vs : List (Form × Int)) (hw : ∀ v ∈ vs, v.1.w ≤ 2 ^ 30) (h0 : ∀ v ∈ vs, 0 ≤ v.2 ∧ v.2 ≤ 2 ^ 30) (hl : vs.length ≤ 2 ^ 20) {r : List Hit × Bool}
    (hK : Tr (fun m => m_impl_match_j5 m bs P lits F v11 g34 (rowH 0 vs [])) r) : Tr (fun m => m_impl_match_l6 m bs P lits F v11 g34 (vs.map (·.1), vs.map (·.2)) ([] : List Hit) 0) r := by
  have key := drop_ind vs (fun k zs => ∀ g : List Hit, g.length = k → g ++ rowH k zs [] = rowH 0 vs [] → Tr (fun m => m_impl_match_l6 m bs P lits F v11 g34 (vs.map (·.1), vs.map (·.2)) g (k : Int)) r) ?_ ?_ 0 (Nat.zero_le _) [] rfl (by rw [List.nil_append, List.drop_zero])
  · exact key
  · intro g hg he
    rw [rowH, List.append_nil] at he
    rw [he]
    exact Tr.step (fun m => by rw [m_impl_match_l6, List.length_map, ltN_self, cond_false]) hK
  · intro k v zs hk hx hd ih g hg he
    have hx1 : (vs.map (·.1))[k]? = some v.1 := by rw [List.getElem?_map, hx]; rfl
    have hx2 : (vs.map (·.2))[k]? = some v.2 := by rw [List.getElem?_map, hx]; rfl
    have hm := List.mem_of_getElem? hx
    have hvw := hw v hm
    have hv0 := h0 v hm
    refine Tr.step (fun m => by rw [m_impl_match_l6, List.length_map, ltN hk, cond_true, idx_nat hx1, Option.bind_some]) (Tr.bind (copyForm_tr v.1 (by omega)) ?_)
    refine Tr.eq (fun m => by rw [idx_nat hx2, Option.bind_some, w64_in (n := v.2 + 1) (by omega), succN]) (Tr.chk (decide_eq_true (by simp; omega)) ?_)
    refine ih (g ++ [Hit.mk v.1 (v.2 + 1) form0 []]) (by simp [hg]) ?_
    rw [rowH] at he
    rw [List.append_assoc]; exact he
theorem mts_row (hS : MatS bs lits P F) (hR : RowS P F xs pr dd tail) : Form.mts bs lits (pr :: dd :: tail) (F.kids.drop xs.length) = match allM (fun f => pr.mt bs lits f) ((F.kids.drop xs.length).take (RowS.many F xs tail)) with
    | none => none
    | some rows => oapp (some (rowH 0 (pr.vd lits 0) rows)) (Form.mts bs lits tail (F.kids.drop (xs.length + RowS.many F xs tail))) := by
  have h3 := hR.len
  have hl : (F.kids.drop xs.length).length = F.kids.length - xs.length := List.length_drop
  have hN : (F.kids.drop xs.length).length + 1 - (dd :: tail).length = RowS.many F xs tail := by rw [hl, List.length_cons]; unfold RowS.many; omega
  rw [Form.mts_eq, hR.row, cond_false, show nextD (dd :: tail) = isDots dd from rfl, hR.dots, cond_true, decide_eq_false (by rw [hl, List.length_cons]; omega), cond_false, hN]
  cases allM (fun f => pr.mt bs lits f) ((F.kids.drop xs.length).take (RowS.many F xs tail)) with
  | none => rfl
  | some rows => simp only; rw [Form.mts_eq bs lits dd, hR.dots, cond_true, List.drop_drop]
theorem match_j3_tr (hS : MatS bs lits P F) (hR : RowS P F xs pr dd tail) (acc : List Hit) (ha : acc.length ≤ 2 ^ 18) : Tr (fun m => m_impl_match_j3 m bs P lits F ((xs.length + 1 : Nat) : Int) acc) (oR (oacc acc (Form.mts bs lits (pr :: dd :: tail) (F.kids.drop xs.length)))) := by
  have h1 := RowS.lens hS hR
  have h2 := hR.plen
  have h3 := hR.len
  have hpm := List.mem_of_getElem? hR.at_pr
  have hpp : PatS pr := (hS.kid pr hpm).pat hR.row
  have hpw := Form.ws_mem hpm
  have hwp := hS.wp
  have hvd := Form.vd_len lits pr 0
  have hhi := Form.vd_hi lits pr 0
  have hnn := Form.vd_nn lits pr 0
  refine Tr.step (fun m => by rw [m_impl_match_j3, RowS.row_eq hS hR, idx_nat hR.at_pr, Option.bind_some]) (Tr.bind (varsOf_tr pr lits (by omega)) ?_)
  have hvw : ∀ v ∈ pr.vd lits 0, v.1.w ≤ 2 ^ 30 := fun v hv => by
    have hm : v.1 ∈ pr.vs lits := by rw [← Form.vd_fst lits pr 0]; exact List.mem_map.2 ⟨v, hv, rfl⟩
    have := Form.vs_w lits pr v.1 hm; omega
  refine match_l6_tr (bs := bs) (lits := lits) (P := P) (F := F) _ acc (pr.vd lits 0) hvw (fun v hv => ⟨hnn v hv, by have := hhi v hv; omega⟩) (by omega) ?_
  have hsub : sub F.kids ((xs.length : Nat) : Int) ((xs.length + RowS.many F xs tail : Nat) : Int) = some ((F.kids.drop xs.length).take (RowS.many F xs tail)) := by
    have hle : xs.length + RowS.many F xs tail ≤ F.kids.length := by unfold RowS.many; omega
    unfold sub
    rw [decide_eq_true (by omega), decide_eq_true (by omega), decide_eq_true (by omega)]
    simp only [Bool.and_self, cond_true, Int.toNat_natCast, Option.some.injEq]
    rw [List.take_drop]
  have hbnd : RowS.many F xs tail ≤ F.kids.length := by unfold RowS.many; omega
  refine Tr.step (fun m => by rw [m_impl_match_j5, RowS.row_eq hS hR, RowS.many_eq hS hR, w64_in (n := ((xs.length : Nat) : Int) + ((RowS.many F xs tail : Nat) : Int)) (by omega), show ((xs.length : Nat) : Int) + ((RowS.many F xs tail : Nat) : Int) = ((xs.length + RowS.many F xs tail : Nat) : Int) by simp, hsub, Option.bind_some]) ?_
  have hj7 : ∀ rows : List (List Hit), Tr (fun m => m_impl_match_j7 m bs P lits F ((xs.length + 1 : Nat) : Int) acc (rowH 0 (pr.vd lits 0) rows)) (oR (oacc (acc ++ rowH 0 (pr.vd lits 0) rows) (Form.mts bs lits tail (F.kids.drop (xs.length + RowS.many F xs tail))))) := fun rows => by
    have hrl := rowH_length (pr.vd lits 0) 0 rows
    refine Tr.step (fun m => by rw [m_impl_match_j7]) (Tr.chk (decide_eq_true (by omega)) ?_)
    have htw : Form.ws tail ≤ Form.ws P.kids := by
      rw [hR.eq, Form.ws_append, Form.ws, Form.ws]; omega
    have := match_l10_tr hS hR tail 0 (acc ++ rowH 0 (pr.vd lits 0) rows) (by rw [List.drop_zero]) (Nat.zero_le _) (by rw [List.length_append, hrl]; omega)
    refine Tr.eq (fun m => by rw [w64_in (by omega), succN]) ?_
    exact this
  have h8 := match_l8_tr hS hR acc ((F.kids.drop xs.length).take (RowS.many F xs tail)) (fun f hf => List.mem_of_mem_drop (List.mem_of_mem_take hf)) (by rw [List.length_take, List.length_drop]; omega)
    (fun hits => oR (oacc (acc ++ hits) (Form.mts bs lits tail (F.kids.drop (xs.length + RowS.many F xs tail))))) (fun rows _ _ => hj7 rows)
  rw [mts_row hS hR]
  cases ha : allM (fun f => pr.mt bs lits f) ((F.kids.drop xs.length).take (RowS.many F xs tail)) with
  | none => rw [ha] at h8; exact h8
  | some rows => rw [ha] at h8; simp only; rw [oR_some]; exact h8
theorem match_l4_tr (hS : MatS bs lits P F) (hR : RowS P F xs pr dd tail) : ∀ (rest : List Form) (k : Nat) (acc : List Hit), xs.drop k = rest → k ≤ xs.length → acc.length + Form.ws rest ≤ 2 ^ 18 →
    Tr (fun m => m_impl_match_l4 m bs P lits F ((xs.length + 1 : Nat) : Int) (k : Int) acc) (oR (oacc acc (Form.mts bs lits (rest ++ pr :: dd :: tail) (F.kids.drop k))))
  | [], k, acc, hd, hk, ha => by
    have : k = xs.length := by have := congrArg List.length hd; rw [List.length_drop] at this; simp at this; omega
    subst this
    rw [List.nil_append]
    exact Tr.step (fun m => by rw [m_impl_match_l4, RowS.row_eq hS hR, ltN_self, cond_false]) (match_j3_tr hS hR acc (by omega))
  | x :: rest, k, acc, hd, hk, ha => by
    obtain ⟨hx0, hd2, hlt⟩ := drop_cons' hd
    have h1 := RowS.lens hS hR
    have h2 := hR.plen
    have h3 := hR.len
    have hx : P.kids[k]? = some x := by rw [hR.eq, List.getElem?_append_left hlt]; exact hx0
    have hdx := hR.pre x (List.mem_of_getElem? hx0)
    have hy : F.kids[k]? = some F.kids[k] := List.getElem?_eq_getElem (by omega)
    have hdr : F.kids.drop k = F.kids[k] :: F.kids.drop (k + 1) := List.drop_eq_getElem_cons (by omega)
    have hnd : nextD (rest ++ pr :: dd :: tail) = false := by
      cases rest with
      | nil => exact hR.row
      | cons z zs => exact hR.pre z (by have : z ∈ xs.drop (k + 1) := by rw [hd2]; simp
                                        exact List.mem_of_mem_drop this)
    rw [Form.ws] at ha
    refine Tr.step (fun m => by rw [m_impl_match_l4, RowS.row_eq hS hR, ltN hlt, cond_true, idx_nat hx, Option.bind_some, idx_nat hy, Option.bind_some]) ?_
    refine Tr.bind (match1_tr hS (List.mem_of_getElem? hx) hdx (List.mem_of_getElem? hy) (by omega)) ?_
    rw [hdr, List.cons_append, mts_one hdx hnd]
    cases hm : x.mt bs lits F.kids[k] with
    | none => rw [oR_none]; exact Tr.tt rfl Tr.val
    | some h =>
      rw [oR_some]
      have hw := mt_length hS (List.mem_of_getElem? hx) hdx hm
      exact Tr.ff rfl (Tr.eq (fun m => by rw [w64_in (by omega), succN]; rfl) (match_l4_tr hS hR rest (k + 1) (acc ++ h) hd2 hlt (by rw [List.length_append]; omega)))
end
theorem implMatch_n (bs : List Bind) (lits : List Form) (hbs : bs.length ≤ 2 ^ 36) (hbf : ∀ b ∈ bs, b.fit) (hbv : bvOk bs = true) : ∀ (n : Nat) (p : Form), p.w ≤ n → PatS p → p.fit → p.w ≤ 2 ^ 17 → ∀ f : Form, f.valid = true → f.fit → f.w ≤ 2 ^ 17 →
    Tr (fun m => m_impl_match m bs p lits f) (oR (p.mt bs lits f)) := by
  intro n
  induction n with
  | zero => intro p h; have := p.w_kids; omega
  | succ n ih =>
    intro p hp hs hpf hpb f hfv hff hfb
    have hw := p.w_kids
    have hfw := f.w_kids
    obtain ⟨q1, q2, q3, q4, q5⟩ := hs.parts
    refine Tr.step (fun m => by rw [m_impl_match]) ?_
    rw [Form.mt_eq]
    by_cases h1 : p.kind = 1
    · rw [decide_eq_true h1, cond_true]
      refine Tr.tt rfl ?_
      by_cases h2 : p.name = underN
      · rw [decide_eq_true h2, cond_true]
        exact Tr.tt rfl Tr.val
      · rw [decide_eq_false h2, cond_false]
        refine Tr.ff rfl (Tr.bind (isIn_tr lits p) ?_)
        cases inF lits p with
        | true =>
          refine Tr.tt rfl (Tr.bind (sameRef_tr bs p f hbs hbf hpf hff) ?_)
          rw [cond_true, hbv, Bool.true_and]
          have hnp : isNm p = true := by
            unfold isNm; rw [decide_eq_true h1, Bool.true_and]
            obtain ⟨d, hd⟩ := hs.ok
            exact (isOk_name hd h1).1
          have hnf : isNm f = decide (f.kind = 1) := by unfold isNm; rw [hfv, Bool.and_true]
          rw [hnp, Bool.true_and, hnf]
          cases decide (f.kind = 1) && refS bs p f <;> exact Tr.val
        | false =>
          refine Tr.ff rfl (Tr.bind (copyForm_tr p (by omega)) (Tr.bind (copyForm_tr f (by omega)) ?_))
          rw [cond_false]; exact Tr.val
    · rw [decide_eq_false h1, cond_false]
      refine Tr.ff rfl ?_
      by_cases h2 : p.kind = 2
      · rw [decide_eq_true h2, cond_true]
        refine Tr.tt rfl (Tr.bind (implFormSame_tr p f) ?_)
        cases same p f <;> exact Tr.val
      · rw [decide_eq_false h2, cond_false]
        refine Tr.ff rfl ?_
        by_cases h3 : f.kind ≠ 3
        · rw [decide_eq_true h3, cond_true]; exact Tr.tt rfl Tr.val
        · rw [decide_eq_false h3, cond_false]
          refine Tr.ff rfl (Tr.bind (dotsAt_tr p.kids) ?_)
          have hl1 := Form.ws_len p.kids
          have hl2 := Form.ws_len f.kids
          have hS : MatS bs lits p f := ⟨q4, fun x hx hd g hg => ih x (by have := Form.ws_mem hx; omega) ((q4 x hx).pat hd) (Form.fits_mem hpf.parts.2.2.2 hx) (by have := Form.ws_mem hx; omega) g (valid_kid hfv hg) (Form.fits_mem hff.parts.2.2.2 hg) (by have := Form.ws_mem hg; omega), by omega, by omega⟩
          have hacc : ∀ o : Option (List Hit), oacc [] o = o := fun o => by cases o <;> simp [oacc]
          rcases cntD_split q3 with hno | ⟨ys, dd, tail, he, e1, e2, e3⟩
          · rw [fnd_no hno]
            refine Tr.tt rfl ?_
            by_cases hlen : p.kids.length = f.kids.length
            · refine Tr.ff (lenE hlen) ?_
              have := match_l2_tr hS hlen p.kids 0 [] (by rw [List.drop_zero]) (Nat.zero_le _) hno (by simp; omega)
              rw [hacc, List.drop_zero] at this
              exact this
            · refine Tr.tt (decide_eq_true (by omega)) ?_
              have hmn : Form.mts bs lits p.kids f.kids = none := by
                cases hm : Form.mts bs lits p.kids f.kids with
                | none => rfl
                | some h =>
                  exact absurd ((mts_len hm).1 (cntD_all hno)) hlen
              rw [hmn]; exact Tr.val
          · obtain ⟨zs, pr, hz⟩ : ∃ zs pr, ys = zs ++ [pr] := by
              rcases List.eq_nil_or_concat ys with h0 | ⟨zs, pr, h0⟩
              · subst h0
                rw [he, List.nil_append, Form.kP, e2] at q2
                simp at q2
              · exact ⟨zs, pr, by simpa using h0⟩
            subst hz
            have hat : fnd isDots p.kids 0 = ((zs.length + 1 : Nat) : Int) := by
              rw [he, fnd_pre e1 e2]; simp
            rw [hat]
            have hpk : p.kids = zs ++ pr :: dd :: tail := by rw [he, List.append_assoc]; rfl
            have hplen : p.kids.length = zs.length + 2 + tail.length := by rw [hpk]; simp; omega
            refine Tr.ff (decide_eq_false (by omega)) ?_
            by_cases hlen : zs.length + tail.length ≤ f.kids.length
            · have hR : RowS p f zs pr dd tail := ⟨hpk, fun x hx => e1 x (by simp [hx]), e1 pr (by simp), e2, e3, hlen⟩
              refine Tr.ff (decide_eq_false (by rw [RowS.many_eq hS hR]; omega)) ?_
              have hzw : Form.ws zs ≤ Form.ws p.kids := by rw [hpk, Form.ws_append]; omega
              have := match_l4_tr hS hR zs 0 [] (by rw [List.drop_zero]) (Nat.zero_le _) (by simp; omega)
              rw [hacc, List.drop_zero, ← hpk] at this
              exact this
            · refine Tr.tt (decide_eq_true (by rw [w64_in (n := (p.kids.length : Int) - 2) (by omega), w64_in (by omega)]; omega)) ?_
              have hmn : Form.mts bs lits p.kids f.kids = none := by
                cases hm : Form.mts bs lits p.kids f.kids with
                | none => rfl
                | some h =>
                  have hc : cntD p.kids = 1 := by
                    rw [he, cntD_app, cntD_all e1, cntD, e2, cntD_all e3]; rfl
                  have hnd : nextD p.kids = false := by
                    rw [hpk]
                    cases zs with
                    | nil => exact e1 pr (by simp)
                    | cons z zs => exact e1 z (by simp)
                  have := (mts_len hm).2.2 hc hnd
                  omega
              rw [hmn]; exact Tr.val
end Go.Abs
end
section
set_option linter.unusedVariables false
set_option linter.unusedSimpArgs false
namespace Go.Abs
theorem PatS.kind {p : Form} (h : PatS p) (h1 : ¬ p.kind = 1) (h2 : ¬ p.kind = 2) : p.kind = 3 := by
  obtain ⟨d, hd⟩ := h.ok
  rw [Form.isOk_eq] at hd
  cases hd0 : decide (d = 0) with
  | true => rw [hd0] at hd; cases hd
  | false =>
    rw [hd0, cond_false, decide_eq_false h1, cond_false, decide_eq_false h2, cond_false, Bool.and_eq_true, decide_eq_true_eq] at hd
    exact hd.1
theorem cnt_eq (f : Form) : f.cnt = 1 + Form.cnts f.kids := by obtain ⟨a, b, c, d, e⟩ := f; rw [Form.cnt]; rfl
end Go.Abs
end
section
set_option linter.unusedVariables false
set_option linter.unusedSimpArgs false
namespace Go.Abs
theorem isOk_w : ∀ (n : Nat) (f : Form), f.w ≤ n → ∀ d, f.isOk d = true → f.w + 1 ≤ 26 * f.cnt := by
  intro n
  induction n with
  | zero => intro f h; have := f.w_kids; omega
  | succ n ih =>
    intro f hn d hd
    have hw := f.w_kids
    have hc := cnt_eq f
    obtain ⟨k1, k2⟩ := isOk_kids hd
    have hsc : f.scopes.length ≤ 24 := by
      rw [Form.isOk_eq] at hd
      cases hd0 : decide (d = 0) with
      | true => rw [hd0] at hd; cases hd
      | false =>
      rw [hd0, cond_false] at hd
      by_cases h1 : f.kind = 1
      · rw [decide_eq_true h1, cond_true] at hd
        unfold scOk at hd
        simp only [Bool.and_eq_true, decide_eq_true_eq] at hd
        omega
      · rw [decide_eq_false h1, cond_false] at hd
        by_cases h2 : f.kind = 2
        · rw [decide_eq_true h2, cond_true] at hd
          simp only [Bool.and_eq_true, decide_eq_true_eq] at hd
          omega
        · rw [decide_eq_false h2, cond_false] at hd
          simp only [Bool.and_eq_true, decide_eq_true_eq] at hd
          omega
    have hk : Form.ws f.kids ≤ 26 * Form.cnts f.kids := by
      have : ∀ l : List Form, (∀ x ∈ l, x ∈ f.kids) → Form.ws l ≤ 26 * Form.cnts l := by
        intro l
        induction l with
        | nil => intro _; rw [Form.ws]; omega
        | cons x l ihl =>
          intro hx
          have h1 := ihl (fun y hy => hx y (by simp [hy]))
          have hm := hx x (by simp)
          have h2 := Form.ws_mem hm
          have h3 := ih x (by omega) _ (k2 x hm)
          rw [Form.cnts, Form.ws]; omega
      exact this _ (fun x hx => hx)
    omega
theorem valid_w {f : Form} (h : f.valid = true) : f.w ≤ 10400 := by
  unfold Form.valid at h
  rw [Bool.and_eq_true, decide_eq_true_eq] at h
  have := isOk_w _ f (Nat.le_refl _) 40 h.1
  omega
theorem patOk_w {p : Form} {lits : List Form} (h : patOk p lits = true) : p.w ≤ 10400 := by
  unfold patOk at h
  rw [Bool.and_eq_true] at h
  exact valid_w h.1
def fstR {α : Type} (D : α → Bool) (l : List α) : Int × Bool := bif decide (0 ≤ fnd D l 0) then (fnd D l 0, true) else (0, false)
theorem loop_first {α β : Type} {xs : List α} {D : α → Bool} {L : Nat → Int → Option (Int × Bool)} {E : Nat → α → Option β} {B : β → Bool}
    (h0 : ∀ m k, L (m + 1) k = bif decide (k < (xs.length : Int)) then (idx xs k).bind fun a => (E m a).bind fun v => bif B v then some (k, true) else L m (k + 1) else some (0, false))
    (hE : ∀ a ∈ xs, ∃ v, Tr (fun m => E m a) v ∧ B v = D a) : Tr (fun m => L m 0) (fstR D xs) := by
  have key := drop_ind xs (fun k zs => Tr (fun m => L m (k : Int)) (bif decide (0 ≤ fnd D zs k) then (fnd D zs k, true) else (0, false))) ?_ ?_ 0 (Nat.zero_le _)
  · exact key
  · exact Tr.step (fun m => by rw [h0, ltN_self, cond_false]; rfl) Tr.val
  · intro k x zs hk hx hd ih
    obtain ⟨v, hv, hb⟩ := hE x (List.mem_of_getElem? hx)
    refine Tr.step (fun m => by rw [h0, ltN hk, cond_true, idx_nat hx, Option.bind_some, succN]) (Tr.bind hv ?_)
    rw [hb, fnd]
    cases hD : D x with
    | true => exact Tr.tt rfl (by rw [cond_true, decide_eq_true (by omega), cond_true]; exact Tr.val)
    | false => exact Tr.ff rfl (by rw [cond_false]; exact ih)
theorem fstR_cases {α : Type} (D : α → Bool) (l : List α) : (fstR D l = (0, false) ∧ ∀ x ∈ l, D x = false) ∨ ∃ (i : Nat) (x : α), fstR D l = ((i : Int), true) ∧ l[i]? = some x ∧ D x = true ∧ ∀ y ∈ l.take i, D y = false := by
  unfold fstR
  rcases fnd_at (D := D) (l := l) (k := 0) with ⟨h1, h2⟩ | ⟨i, x, h1, h2, h3, h4⟩
  · rw [h1]; exact .inl ⟨rfl, h2⟩
  · rw [h1]; refine .inr ⟨i, x, ?_, h2, h3, h4⟩
    rw [decide_eq_true (by omega), cond_true]; simp
noncomputable def ruleM (bs : List Bind) (lits : List Form) (f : Form) (r : Rule) : Bool := (r.pattern.mt bs lits f).isSome
noncomputable def firstR (bs : List Bind) (rules : List Rule) (lits : List Form) (f : Form) : Int × Bool :=
  bif bvOk bs && (rulesOkB rules lits && f.valid) then fstR (ruleM bs lits f) rules else (0, false)
theorem rulesOk_all {rules : List Rule} {lits : List Form} (h : rulesOkB rules lits = true) : (∀ r ∈ rules, ruleOk r lits = true) ∧ rules.length ≤ 9 := by
  unfold rulesOkB at h
  simp only [Bool.and_eq_true, decide_eq_true_eq] at h
  exact ⟨alls_iff.1 h.1, by have := h.2.1; omega⟩
theorem ruleOk_pat {r : Rule} {lits : List Form} (h : ruleOk r lits = true) : patOk r.pattern lits = true := by
  unfold ruleOk at h
  rw [Bool.and_eq_true] at h
  exact h.1
structure RulesF (rules : List Rule) : Prop where
  fit : ∀ r ∈ rules, r.fit
  pw : ∀ r ∈ rules, r.pattern.w ≤ 2 ^ 36
  tw : ∀ r ∈ rules, r.template.w ≤ 2 ^ 36
theorem implFirst_tr (bs : List Bind) (rules : List Rule) (lits : List Form) (f : Form) (hb : ∀ b ∈ bs, b.fit) (hbl : bs.length ≤ 2 ^ 36) (hr : RulesF rules) (hl : Form.fits lits) (hf : f.fit) :
    Tr (fun m => m_impl_FirstRule m bs rules lits f) (firstR bs rules lits f) := by
  refine Tr.eq (fun m => by unfold m_impl_FirstRule; rfl) (Tr.bind (implBindsValid_tr bs (by omega) hb) ?_)
  unfold firstR
  have no : Tr (fun m => m_impl_FirstRule_j1 m bs rules lits f true) ((0 : Int), false) := Tr.step (fun m => by rw [m_impl_FirstRule_j1]; rfl) Tr.val
  cases hbv : bvOk bs with
  | false => exact Tr.tt rfl no
  | true =>
  refine Tr.ff rfl (Tr.bind (rulesOk_tr rules lits (fun r h => ⟨hr.fit r h, hr.pw r h, hr.tw r h⟩) hl) ?_)
  cases hro : rulesOkB rules lits with
  | false => exact Tr.tt rfl no
  | true =>
  refine Tr.ff rfl (Tr.bind (implFormValid_tr f hf) ?_)
  cases hfv : f.valid with
  | false => exact no
  | true =>
  refine Tr.step (fun m => by rw [m_impl_FirstRule_j1, Bool.not_true, cond_false]) ?_
  rw [Bool.true_and, Bool.true_and, cond_true]
  have hfw := valid_w hfv
  refine loop_first (L := fun m k => m_impl_FirstRule_l2 m bs rules lits f k) (E := fun m r => m_impl_match m bs r.pattern lits f) (B := fun v => v.2) (fun m k => by rw [m_impl_FirstRule_l2]) (fun r h => ?_)
  have hpo := ruleOk_pat ((rulesOk_all hro).1 r h)
  have hpw := patOk_w hpo
  exact ⟨_, implMatch_n bs lits hbl hb hbv _ r.pattern (Nat.le_refl _) (patOk_S hpo) (hr.fit r h).1 (by omega) f hfv hf (by omega), rfl⟩
theorem Dr5.rf {lits : List Form} {rules : List Rule} {f : Form} (h : Dr5 lits rules f) : RulesF rules :=
  ⟨fun r hr => ⟨(h.r r hr).p.fit, (h.r r hr).t.fit⟩, fun r hr => by have := (h.r r hr).p.w; omega, fun r hr => by have := (h.r r hr).t.w; omega⟩
theorem DrawFirstRule_tq (code : List Int) (hc : ∀ x ∈ code, 0 ≤ x ∧ x < 256) : TQ (fun m => m_spec_DrawFirstRule m code) (fun r => r.1 = [] ∧ Dr5 r.2.2.1 r.2.1 r.2.2.2) :=
  TQ.eq (fun m => by unfold m_spec_DrawFirstRule; rfl) (TQ.bind (l5Case_tq code hc) (fun v hv => TQ.val ⟨rfl, hv⟩))
end Go.Abs
end
section
set_option linter.unusedVariables false
set_option linter.unusedSimpArgs false
namespace Go.Abs
noncomputable def deepB (x : Form) (h : Hit) : Bool := Form.part h.name x && !decide (h.depth = 0)
noncomputable def nthR (x : Form) (n : Nat) (hs : List Hit) : List Hit := hs.map fun h => bif deepB x h then h.many.getD n hit0 else h
def DepR (l : List (Form × Int)) (v : Nat) (hs : List Hit) (x : Form) : Prop := ∀ g, Form.part g x = true → (0 < dep l g - v ∨ 0 < dep (nd hs) g) → dep (nd hs) g = dep l g - v
structure FillS (l : List (Form × Int)) (v : Nat) (hs : List Hit) (x : Form) : Prop where
  hv : hvOk hs = true
  rws : x.rws l v = true
  ok : ∃ d, x.isOk d = true
  R : DepR l v hs x
theorem part_self (x : Form) : Form.part x x = true := by rw [Form.part_eq, same_self, Bool.true_or]
theorem part_kid {g x f : Form} (hx : x ∈ f.kids) (h : Form.part g x = true) : Form.part g f = true := by
  rw [Form.part_eq, parts_mem hx h, Bool.or_true]
theorem kR_kid {l : List (Form × Int)} {v : Nat} : ∀ {zs : List Form} {i : Nat} {x : Form}, Form.kR l v zs = true → zs[i]? = some x → isDots x = false → bif nextD (zs.drop (i + 1)) then x.anyD l v = true ∧ x.rws l (v + 1) = true else x.rws l v = true
  | y :: ys, 0, x, h, hx, hd => by
    simp at hx; subst hx
    rw [Form.kR, Bool.and_eq_true, hd, cond_false] at h
    have h1 := h.1
    simp only [List.drop_succ_cons, List.drop_zero]
    cases hn : nextD ys with
    | true => rw [hn, cond_true, Bool.and_eq_true] at h1; exact h1
    | false => rw [hn, cond_false] at h1; exact h1
  | y :: ys, i + 1, x, h, hx, hd => by
    rw [Form.kR, Bool.and_eq_true] at h
    have := kR_kid (zs := ys) (i := i) (x := x) h.2 (by simpa using hx) hd
    simpa using this
mutual
theorem anyD_ex {l : List (Form × Int)} {v : Int} : ∀ f : Form, f.anyD l v = true → ∃ g, Form.part g f = true ∧ v < dep l g
  | .mk a b c d e, h => by
    rw [Form.anyD, Bool.or_eq_true] at h
    rcases h with h | h
    · exact ⟨_, part_self _, of_decide_eq_true h⟩
    · obtain ⟨g, h1, h2⟩ := anyDs_ex e h
      exact ⟨g, by rw [Form.part, h1, Bool.or_true], h2⟩
theorem anyDs_ex {l : List (Form × Int)} {v : Int} : ∀ zs : List Form, Form.anyDs l v zs = true → ∃ g, Form.parts g zs = true ∧ v < dep l g
  | [], h => by rw [Form.anyDs] at h; cases h
  | x :: xs, h => by
    rw [Form.anyDs, Bool.or_eq_true] at h
    rcases h with h | h
    · obtain ⟨g, h1, h2⟩ := anyD_ex x h
      exact ⟨g, by rw [Form.parts, h1, Bool.true_or], h2⟩
    · obtain ⟨g, h1, h2⟩ := anyDs_ex xs h
      exact ⟨g, by rw [Form.parts, h1, Bool.or_true], h2⟩
end
theorem hvOk_all {hs : List Hit} (h : hvOk hs = true) : (∀ x ∈ hs, x.isOk = true) ∧ hs.length ≤ 20 := by
  unfold hvOk at h
  rw [Bool.and_eq_true, decide_eq_true_eq] at h
  refine ⟨?_, by omega⟩
  have : ∀ {l ps : List Hit}, hvF ps l = true → ∀ x ∈ l, x.isOk = true := by
    intro l
    induction l with
    | nil => intro ps _ x hx; cases hx
    | cons y ys ih =>
      intro ps hv x hx
      rw [hvF, Bool.and_eq_true, Bool.and_eq_true] at hv
      rcases List.mem_cons.1 hx with rfl | hx
      · exact hv.1
      · exact ih hv.2.2 x hx
  exact this h.1
theorem isOk_hit {h : Hit} (hk : h.isOk = true) : isNm h.name = true ∧ (0 ≤ h.depth ∧ h.depth ≤ 3) ∧ (h.depth = 0 → h.one.valid = true ∧ h.many = []) ∧ (h.depth ≠ 0 → h.many.length ≤ 400 ∧ ∀ y ∈ h.many, y.name = h.name ∧ y.depth = h.depth - 1 ∧ y.isOk = true) := by
  rw [Hit.isOk_eq] at hk
  simp only [Bool.and_eq_true, decide_eq_true_eq] at hk
  obtain ⟨a, _, _, b, c⟩ := hk
  refine ⟨a, b, fun h0 => ?_, fun h0 => ?_⟩
  · rw [decide_eq_true h0, cond_true, Bool.and_eq_true, decide_eq_true_eq] at c
    exact ⟨c.1, List.eq_nil_of_length_eq_zero (by omega)⟩
  · rw [decide_eq_false h0, cond_false, Bool.and_eq_true, Bool.and_eq_true, decide_eq_true_eq] at c
    refine ⟨by omega, fun y hy => ?_⟩
    have := alls_iff.1 c.2.2 y hy
    rw [Bool.and_eq_true, Bool.and_eq_true, decide_eq_true_eq] at this
    exact ⟨same_iff.1 this.1, this.2.1, this.2.2⟩
theorem hv_name {hs : List Hit} (hv : hvOk hs = true) {h : Hit} (hm : h ∈ hs) : dep (nd hs) h.name = h.depth := by
  have hn := (isOk_hit ((hvOk_all hv).1 h hm)).1
  unfold hvOk at hv
  rw [Bool.and_eq_true] at hv
  unfold isNm at hn
  rw [Bool.and_eq_true, decide_eq_true_eq] at hn
  unfold dep
  rw [decide_eq_false (by simp [hn.1]), cond_false]
  exact hv_dep hv.1 h hm
theorem depF_none {f : Form} : ∀ {l : List Hit}, (∀ h ∈ l, h.name ≠ f) → depF (nd l) f = -1
  | [], _ => rfl
  | x :: xs, h => by
    show depF ((x.name, x.depth) :: nd xs) f = -1
    rw [depF, same_ne (h x (by simp)), cond_false, depF_none (fun y hy => h y (by simp [hy]))]
theorem dep_cases {hs : List Hit} (hv : hvOk hs = true) (g : Form) : (∃ h ∈ hs, h.name = g ∧ dep (nd hs) g = h.depth) ∨ ((∀ h ∈ hs, h.name ≠ g) ∧ dep (nd hs) g = -1) := by
  by_cases hx : ∃ h ∈ hs, h.name = g
  · obtain ⟨h, hm, rfl⟩ := hx
    exact .inl ⟨h, hm, rfl, hv_name hv hm⟩
  · have hn : ∀ h ∈ hs, h.name ≠ g := fun h hm he => hx ⟨h, hm, he⟩
    refine .inr ⟨hn, ?_⟩
    unfold dep
    cases decide (g.kind ≠ 1) with
    | true => rfl
    | false => rw [cond_false]; exact depF_none hn
theorem FillS.kid {l : List (Form × Int)} {v : Nat} {hs : List Hit} {f x : Form} (hF : FillS l v hs f) {i : Nat} (hx : f.kids[i]? = some x) (hd : isDots x = false) (hn : nextD (f.kids.drop (i + 1)) = false) : FillS l v hs x := by
  have hm := List.mem_of_getElem? hx
  have hr := hF.rws
  rw [Form.rws_eq, Bool.and_eq_true] at hr
  have := kR_kid hr.2 hx hd
  rw [hn, cond_false] at this
  obtain ⟨d, hok⟩ := hF.ok
  exact ⟨hF.hv, this, ⟨_, (isOk_kids hok).2 x hm⟩, fun g hg => hF.R g (part_kid hm hg)⟩
theorem many_mem {h : Hit} {n : Nat} (hn : n < h.many.length) : h.many.getD n hit0 ∈ h.many := by
  rw [List.getD_eq_getElem?_getD, List.getElem?_eq_getElem hn]; exact List.getElem_mem hn
theorem nthR_names {x : Form} {n : Nat} : ∀ {hs : List Hit}, (∀ h ∈ hs, h.isOk = true) → (∀ h ∈ hs, deepB x h = true → n < h.many.length) → (nthR x n hs).map Hit.name = hs.map Hit.name
  | [], _, _ => rfl
  | h :: hs, hk, hn => by
    have ih := nthR_names (x := x) (n := n) (hs := hs) (fun y hy => hk y (by simp [hy])) (fun y hy => hn y (by simp [hy]))
    show (bif deepB x h then h.many.getD n hit0 else h).name :: (nthR x n hs).map Hit.name = h.name :: hs.map Hit.name
    rw [ih]
    cases hd : deepB x h with
    | false => rfl
    | true =>
      rw [cond_true]
      have h0 : h.depth ≠ 0 := by
        unfold deepB at hd
        rw [Bool.and_eq_true, Bool.not_eq_true', decide_eq_false_iff_not] at hd
        exact hd.2
      rw [(((isOk_hit (hk h (by simp))).2.2.2 h0).2 _ (many_mem (hn h (by simp) hd))).1]
theorem hvF_dist : ∀ {l ps : List Hit}, hvF ps l = true → distF (ps.map Hit.name) (l.map Hit.name) = true
  | [], ps, _ => rfl
  | x :: xs, ps, h => by
    rw [hvF, Bool.and_eq_true, Bool.and_eq_true] at h
    have ih := hvF_dist h.2.2
    rw [List.map_append] at ih
    rw [List.map_cons, distF]
    have h1 : inF (ps.map Hit.name) x.name = false := by
      unfold inF
      rw [alls_iff.2 (fun y hy => ?_)]
      · rfl
      · obtain ⟨z, hz, rfl⟩ := List.mem_map.1 hy
        exact alls_iff.1 h.2.1 z hz
    rw [h1]; simpa using ih
theorem nthR_hv {x : Form} {n : Nat} {hs : List Hit} (hv : hvOk hs = true) (hn : ∀ h ∈ hs, deepB x h = true → n < h.many.length) : hvOk (nthR x n hs) = true := by
  obtain ⟨h1, h2⟩ := hvOk_all hv
  have hnm := nthR_names h1 hn
  unfold hvOk at hv ⊢
  rw [Bool.and_eq_true] at hv ⊢
  refine ⟨hvF_of (fun y hy => ?_) ?_, ?_⟩
  · obtain ⟨h, hm, rfl⟩ := List.mem_map.1 hy
    cases hd : deepB x h with
    | false => exact h1 h hm
    | true =>
      rw [cond_true]
      have h0 : h.depth ≠ 0 := by
        unfold deepB at hd
        rw [Bool.and_eq_true, Bool.not_eq_true', decide_eq_false_iff_not] at hd
        exact hd.2
      exact (((isOk_hit (h1 h hm)).2.2.2 h0).2 _ (many_mem (hn h hm hd))).2.2
  · rw [hnm]; exact hvF_dist hv.1
  · have : (nthR x n hs).length = hs.length := by unfold nthR; rw [List.length_map]
    rw [this]; exact hv.2
theorem FillS.row {l : List (Form × Int)} {v : Nat} {hs : List Hit} {f x : Form} (hF : FillS l v hs f) {i : Nat} (hx : f.kids[i]? = some x) (hd : isDots x = false) (hn : nextD (f.kids.drop (i + 1)) = true) :
    (∃ h ∈ hs, deepB x h = true) ∧ ∀ n, (∀ h ∈ hs, deepB x h = true → n < h.many.length) → FillS l (v + 1) (nthR x n hs) x := by
  have hm := List.mem_of_getElem? hx
  have hr := hF.rws
  rw [Form.rws_eq, Bool.and_eq_true] at hr
  have hk := kR_kid hr.2 hx hd
  rw [hn, cond_true] at hk
  obtain ⟨d, hok⟩ := hF.ok
  refine ⟨?_, fun n hlen => ⟨nthR_hv hF.hv hlen, hk.2, ⟨_, (isOk_kids hok).2 x hm⟩, fun g hg hpos => ?_⟩⟩
  · obtain ⟨g, h1, h2⟩ := anyD_ex x hk.1
    have hR := hF.R g (part_kid hm h1) (.inl (by omega))
    rcases dep_cases hF.hv g with ⟨h, hmem, rfl, he⟩ | ⟨_, he⟩
    · refine ⟨h, hmem, ?_⟩
      unfold deepB
      rw [h1, Bool.true_and, decide_eq_false (by omega)]; rfl
    · omega
  · have hR := hF.R g (part_kid hm hg)
    rcases dep_cases hF.hv g with ⟨h, hmem, rfl, he⟩ | ⟨hno, he⟩
    · have hin : (bif deepB x h then h.many.getD n hit0 else h) ∈ nthR x n hs := List.mem_map.2 ⟨h, hmem, rfl⟩
      have hok := isOk_hit ((hvOk_all hF.hv).1 h hmem)
      by_cases h0 : h.depth = 0
      · have hdp : deepB x h = false := by unfold deepB; rw [decide_eq_true h0]; simp
        rw [hdp, cond_false] at hin
        have := hv_name (nthR_hv hF.hv hlen) hin
        rcases hpos with hp | hp
        · have := hR (.inl (by omega)); omega
        · omega
      · have hdp : deepB x h = true := by unfold deepB; rw [hg, decide_eq_false h0]; rfl
        rw [hdp, cond_true] at hin
        have hnm := (hok.2.2.2 h0).2 _ (many_mem (hlen h hmem hdp))
        have h2 := hv_name (nthR_hv hF.hv hlen) hin
        rw [hnm.1, hnm.2.1] at h2
        have := hR (.inr (by have := hok.2.1.1; omega))
        rw [h2]; omega
    · have h2 : dep (nd (nthR x n hs)) g = -1 := by
        rcases dep_cases (nthR_hv hF.hv hlen) g with ⟨h', hmem', hnm', _⟩ | ⟨_, he'⟩
        · have : h'.name ∈ (nthR x n hs).map Hit.name := List.mem_map.2 ⟨h', hmem', rfl⟩
          rw [nthR_names (hvOk_all hF.hv).1 hlen] at this
          obtain ⟨h, hmem, hnm⟩ := List.mem_map.1 this
          exact absurd (hnm.trans hnm') (hno h hmem)
        · exact he'
      rcases hpos with hp | hp
      · have := hR (.inl (by omega)); omega
      · omega
theorem FillS.leaf {l : List (Form × Int)} {v : Nat} {hs : List Hit} {x : Form} (hF : FillS l v hs x) : hAt hs x = -1 ∨ ∃ i h, hAt hs x = ((i : Nat) : Int) ∧ hs[i]? = some h ∧ h.depth = 0 ∧ h.one.valid = true := by
  rcases fnd_at (D := fun y : Hit => same y.name x) (l := hs) (k := 0) with ⟨h1, _⟩ | ⟨i, h, h1, h2, h3, _⟩
  · exact .inl h1
  · have hm := List.mem_of_getElem? h2
    have hn : h.name = x := same_iff.1 h3
    have hok := isOk_hit ((hvOk_all hF.hv).1 h hm)
    have hd := hv_name hF.hv hm
    rw [hn] at hd
    have hr := hF.rws
    rw [Form.rws_eq, Bool.and_eq_true, Bool.not_eq_true', decide_eq_false_iff_not] at hr
    have h0 : h.depth = 0 := by
      by_cases hp : 0 < h.depth
      · have := hF.R x (part_self x) (.inr (by omega)); omega
      · have := hok.2.1.1; omega
    exact .inr ⟨i, h, by unfold hAt; rw [h1, Nat.zero_add], h2, h0, (hok.2.2.1 h0).1⟩
structure FormF (y : Form) : Prop where
  ok : ∃ d, y.isOk d = true
  cnt : y.cnt ≤ 401
theorem FormF.w {y : Form} (h : FormF y) : y.w ≤ 10426 := by
  obtain ⟨d, hd⟩ := h.ok
  have := isOk_w _ y (Nat.le_refl _) d hd
  have := h.cnt; omega
end Go.Abs
end
section
set_option linter.unusedVariables false
set_option linter.unusedSimpArgs false
namespace Go.Abs
theorem kD_prev : ∀ {zs : List Form} {pd sn : Bool} {i : Nat} {x : Form}, Form.kD false pd sn zs = true → zs[i]? = some x → isDots x = true → (i = 0 ∧ pd = false) ∨ ∃ j y, i = j + 1 ∧ zs[j]? = some y ∧ isDots y = false
  | z :: zs, pd, sn, 0, x, h, hx, hd => by
    simp at hx; subst hx
    rw [Form.kD, hd, cond_true, Bool.and_eq_true, Bool.and_eq_true, Bool.not_eq_true'] at h
    exact .inl ⟨rfl, h.1.1⟩
  | z :: zs, pd, sn, i + 1, x, h, hx, hd => by
    rw [Form.kD, Bool.and_eq_true] at h
    rcases kD_prev (zs := zs) (i := i) h.2 (by simpa using hx) hd with ⟨rfl, h2⟩ | ⟨j, y, rfl, hy, hyd⟩
    · exact .inr ⟨0, z, rfl, rfl, h2⟩
    · exact .inr ⟨j + 1, y, rfl, by simpa using hy, hyd⟩
theorem FillS.plain {l : List (Form × Int)} {v : Nat} {hs : List Hit} {f : Form} (hF : FillS l v hs f) (hd : f.dotsOk false = true) (hno : ∀ h ∈ hs, Form.part h.name f = false) : ∀ x ∈ f.kids, isDots x = false := by
  intro x hx
  rw [Bool.eq_false_iff]
  intro hdx
  obtain ⟨i, hi⟩ := List.getElem?_of_mem hx
  rw [Form.dotsOk_eq] at hd
  rcases kD_prev hd hi hdx with ⟨_, h⟩ | ⟨j, y, rfl, hy, hyd⟩
  · cases h
  · have hnx : nextD (f.kids.drop (j + 1)) = true := by
      rw [drop_get hi]; exact hdx
    obtain ⟨⟨h, hm, hdp⟩, _⟩ := hF.row hy hyd hnx
    unfold deepB at hdp
    rw [Bool.and_eq_true] at hdp
    have := part_kid (List.mem_of_getElem? hy) hdp.1
    rw [hno h hm] at this; cases this
end Go.Abs
end
section
set_option linter.unusedVariables false
set_option linter.unusedSimpArgs false
namespace Go.Abs
theorem firstR_cases (bs : List Bind) (rules : List Rule) (lits : List Form) (f : Form) : (firstR bs rules lits f = (0, false)) ∨ ∃ (i : Nat) (r : Rule) (h : List Hit), firstR bs rules lits f = ((i : Int), true) ∧ rules[i]? = some r ∧ r.pattern.mt bs lits f = some h ∧ bvOk bs = true ∧ rulesOkB rules lits = true ∧ f.valid = true ∧ ∀ y ∈ rules.take i, ruleM bs lits f y = false := by
  unfold firstR
  cases hg : (bvOk bs && (rulesOkB rules lits && f.valid)) with
  | false => exact .inl rfl
  | true =>
    rw [cond_true]
    simp only [Bool.and_eq_true] at hg
    rcases fstR_cases (ruleM bs lits f) rules with ⟨h1, _⟩ | ⟨i, x, h1, h2, h3, h4⟩
    · exact .inl h1
    · unfold ruleM at h3
      obtain ⟨h, hh⟩ := Option.isSome_iff_exists.1 h3
      exact .inr ⟨i, x, h, h1, h2, hh, hg.1, hg.2.1, hg.2.2, h4⟩
section
variable (bs : List Bind) (rules : List Rule) (lits : List Form) (f : Form) (hb : ∀ b ∈ bs, b.fit) (hbl : bs.length ≤ 2 ^ 36) (hr : RulesF rules) (hl : Form.fits lits) (hf : f.fit)
include hb hbl hr hl hf
end
end Go.Abs
end
section
set_option linter.unusedVariables false
set_option linter.unusedSimpArgs false
namespace Go.Abs
mutual
noncomputable def Form.gen (lits : List Form) : Form → Form → Bool
  | .mk k nm n sc kids, p =>
    bif isVarB lits (.mk k nm n sc kids) then true
    else bif decide (k = 1) && decide (nm = underN) then true
    else bif decide (k ≠ 3) then same (.mk k nm n sc kids) p
    else bif decide (p.kind ≠ 3) then false
    else bif decide ((kids.length : Int) ≠ (p.kids.length : Int)) then false
    else Form.gens lits kids p.kids
noncomputable def Form.gens (lits : List Form) : List Form → List Form → Bool
  | [], _ => true
  | _ :: _, [] => true
  | q :: qs, p :: ps => bif decide (isDots q ≠ isDots p) then false else bif !isDots q then (bif !Form.gen lits q p then false else Form.gens lits qs ps) else Form.gens lits qs ps
end
theorem Form.gen_eq (lits : List Form) (q p : Form) : q.gen lits p = bif isVarB lits q then true
    else bif decide (q.kind = 1) && decide (q.name = underN) then true
    else bif decide (q.kind ≠ 3) then same q p
    else bif decide (p.kind ≠ 3) then false
    else bif decide ((q.kids.length : Int) ≠ (p.kids.length : Int)) then false
    else Form.gens lits q.kids p.kids := by obtain ⟨a, b, c, d, e⟩ := q; rw [Form.gen]; rfl
theorem gens_cons {lits : List Form} {q p : Form} {qs ps : List Form} (h : Form.gens lits (q :: qs) (p :: ps) = true) : isDots q = isDots p ∧ (isDots p = false → q.gen lits p = true) ∧ Form.gens lits qs ps = true := by
  rw [Form.gens] at h
  cases hq : isDots q <;> cases hp : isDots p <;> rw [hq, hp] at h
  · cases hg : Form.gen lits q p with
    | false => rw [hg] at h; cases h
    | true => rw [hg] at h; exact ⟨rfl, fun _ => rfl, h⟩
  · cases h
  · cases h
  · exact ⟨rfl, fun hh => (by cases hh), h⟩
theorem gens_next {lits : List Form} : ∀ {qs ps : List Form}, qs.length = ps.length → Form.gens lits qs ps = true → nextD qs = nextD ps
  | [], [], _, _ => rfl
  | q :: qs, p :: ps, _, h => (gens_cons h).1
  | [], p :: ps, h, _ => by simp at h
  | q :: qs, [], h, _ => by simp at h
theorem allM_some {α β : Type} {D E : α → Option β} (h : ∀ x, (D x).isSome = true → (E x).isSome = true) : ∀ l : List α, (allM D l).isSome = true → (allM E l).isSome = true
  | [], hd => by rw [allM]; rfl
  | x :: xs, hd => by
    rw [allM] at hd ⊢
    have ih := allM_some h xs
    cases hx : D x with
    | none => rw [hx] at hd; cases hd
    | some y =>
      obtain ⟨z, hz⟩ := Option.isSome_iff_exists.1 (h x (by rw [hx]; rfl))
      rw [hx] at hd; rw [hz]
      cases hxs : allM D xs with
      | none => rw [hxs] at hd; cases hd
      | some ys =>
        obtain ⟨zs, hzs⟩ := Option.isSome_iff_exists.1 (ih (by rw [hxs]; rfl))
        rw [hzs]; rfl
theorem oapp_l {α : Type} {a b : Option (List α)} (h : (oapp a b).isSome = true) : a.isSome = true ∧ b.isSome = true := by
  cases a <;> cases b <;> first | cases h; done | exact ⟨rfl, rfl⟩
theorem oapp_r {α : Type} {a b : Option (List α)} (h1 : a.isSome = true) (h2 : b.isSome = true) : (oapp a b).isSome = true := by
  cases a <;> cases b <;> first | rfl | cases h1; done | cases h2; done
mutual
theorem gen_mt (bs : List Bind) (lits : List Form) : ∀ (q p f : Form), q.gen lits p = true → (p.mt bs lits f).isSome = true → (q.mt bs lits f).isSome = true
  | .mk k nm n sc kids, p, f, hg, hp => by
    rw [Form.gen] at hg
    cases hv : isVarB lits (.mk k nm n sc kids) with
    | true =>
      unfold isVarB at hv
      simp only [Bool.and_eq_true, Bool.not_eq_true', decide_eq_true_eq, decide_eq_false_iff_not] at hv
      obtain ⟨h1, _, h2, h3⟩ := hv
      replace h1 : k = 1 := h1
      replace h2 : ¬ nm = underN := h2
      rw [Form.mt, decide_eq_true h1, decide_eq_false h2, h3]; rfl
    | false =>
    rw [hv, cond_false] at hg
    cases hu : (decide (k = 1) && decide (nm = underN)) with
    | true =>
      simp only [Bool.and_eq_true, decide_eq_true_eq] at hu
      rw [Form.mt, decide_eq_true hu.1, decide_eq_true hu.2]; rfl
    | false =>
    rw [hu, cond_false] at hg
    by_cases h3 : k = 3
    case neg =>
      rw [decide_eq_true h3, cond_true, same_iff] at hg
      rw [hg]; exact hp
    rw [decide_eq_false (fun h => h h3), cond_false] at hg
    by_cases hp3 : p.kind = 3
    case neg => rw [decide_eq_true hp3] at hg; cases hg
    rw [decide_eq_false (fun h => h hp3), cond_false] at hg
    by_cases hl : (kids.length : Int) = (p.kids.length : Int)
    case neg => rw [decide_eq_true hl] at hg; cases hg
    rw [decide_eq_false (fun h => h hl), cond_false] at hg
    have key := fun fs => gens_mts bs lits kids p.kids fs (by omega) hg
    obtain ⟨pk, pn, pi, psc, pkids⟩ := p
    subst h3
    replace hp3 : pk = 3 := hp3
    subst hp3
    rw [Form.mt] at hp ⊢
    have e1 : decide ((3 : Int) = 1) = false := rfl
    have e2 : decide ((3 : Int) = 2) = false := rfl
    rw [e1, e2, cond_false, cond_false] at hp ⊢
    cases hf : decide (f.kind ≠ 3) with
    | true => rw [hf] at hp; cases hp
    | false => rw [hf] at hp; exact key _ hp
theorem gens_mts (bs : List Bind) (lits : List Form) : ∀ (qs ps fs : List Form), qs.length = ps.length → Form.gens lits qs ps = true → (Form.mts bs lits ps fs).isSome = true → (Form.mts bs lits qs fs).isSome = true
  | [], ps, fs, hl, _, hp => by
    have : ps = [] := List.length_eq_zero_iff.1 hl.symm
    subst this; exact hp
  | q :: qs, ps, fs, hl, hg, hp => by
    obtain _ | ⟨p, ps⟩ := ps
    · simp at hl
    obtain ⟨hd, hgq, hgs⟩ := gens_cons hg
    have hll : qs.length = ps.length := by simpa using hl
    have hn := gens_next hll hgs
    rw [Form.mts_eq] at hp ⊢
    rw [hd, hn, hll]
    cases hdp : isDots p with
    | true => rw [hdp, cond_true] at hp; rw [cond_true]; exact gens_mts bs lits qs ps fs hll hgs hp
    | false =>
      have hgq := fun f => gen_mt bs lits q p f (hgq hdp)
      rw [hdp, cond_false] at hp; rw [cond_false]
      cases hnd : nextD ps with
      | true =>
        rw [hnd, cond_true] at hp; rw [cond_true]
        have hr := gens_mts bs lits qs ps (fs.drop (fs.length + 1 - ps.length)) hll hgs
        cases hc : decide (fs.length + 1 < ps.length) with
        | true => rw [hc] at hp; cases hp
        | false =>
          rw [hc, cond_false] at hp; rw [cond_false]
          have ha := allM_some hgq (fs.take (fs.length + 1 - ps.length))
          cases hap : allM (fun f => p.mt bs lits f) (fs.take (fs.length + 1 - ps.length)) with
          | none => rw [hap] at hp; cases hp
          | some rows =>
            obtain ⟨r2, hr2⟩ := Option.isSome_iff_exists.1 (ha (by rw [hap]; rfl))
            rw [hap] at hp; rw [hr2]
            exact oapp_r rfl (hr (oapp_l hp).2)
      | false =>
        rw [hnd, cond_false] at hp; rw [cond_false]
        cases fs with
        | nil => cases hp
        | cons f fs => exact oapp_r (hgq f (oapp_l hp).1) (gens_mts bs lits qs ps fs hll hgs (oapp_l hp).2)
end
theorem implGen_n (lits : List Form) : ∀ (n : Nat) (q : Form), q.w ≤ n → ∀ p : Form, Tr (fun m => m_impl_general m q p lits) (q.gen lits p) := by
  intro n
  induction n with
  | zero => intro q h; have := q.w_kids; omega
  | succ n ih =>
    intro q hn p
    have hw := q.w_kids
    rw [Form.gen_eq]
    refine Tr.step (fun m => by rw [m_impl_general]) (Tr.bind (isVar_tr q lits) ?_)
    have yes : Tr (fun m => m_impl_general_j1 m q p lits true) true := Tr.step (fun m => by rw [m_impl_general_j1, cond_true]) Tr.val
    cases isVarB lits q with
    | true => exact yes
    | false =>
    rw [cond_false]
    refine Tr.ff rfl (Tr.bind (v := decide (q.kind = 1) && decide (q.name = underN)) (named_tr q underN) ?_)
    cases decide (q.kind = 1) && decide (q.name = underN) with
    | true => exact yes
    | false =>
    rw [cond_false]
    refine Tr.step (fun m => by rw [m_impl_general_j1, cond_false]) ?_
    cases decide (q.kind ≠ 3) with
    | true => exact Tr.tt rfl (Tr.bind (implFormSame_tr q p) Tr.val)
    | false =>
    rw [cond_false]
    refine Tr.ff rfl ?_
    have no : Tr (fun m => m_impl_general_j2 m q p lits true) false := Tr.step (fun m => by rw [m_impl_general_j2, cond_true]) Tr.val
    cases decide (p.kind ≠ 3) with
    | true => exact Tr.tt rfl no
    | false =>
    rw [cond_false]
    refine Tr.ff rfl ?_
    by_cases hl : (q.kids.length : Int) = (p.kids.length : Int)
    case neg => rw [decide_eq_true hl]; exact no
    rw [decide_eq_false (fun h => h hl), cond_false]
    refine Tr.step (fun m => by rw [m_impl_general_j2, cond_false]) ?_
    have key := drop_ind q.kids (fun k zs => Tr (fun m => m_impl_general_l3 m q p lits (k : Int)) (Form.gens lits zs (p.kids.drop k))) ?_ ?_ 0 (Nat.zero_le _)
    · exact key
    · exact Tr.step (fun m => by rw [m_impl_general_l3, ltN_self, cond_false, Form.gens]) Tr.val
    · intro k x zs hk hx hd ihk
      have hk2 : k < p.kids.length := by omega
      have hdr : p.kids.drop k = p.kids[k] :: p.kids.drop (k + 1) := List.drop_eq_getElem_cons hk2
      have hy : p.kids[k]? = some p.kids[k] := List.getElem?_eq_getElem hk2
      have hxw := Form.ws_mem (List.mem_of_getElem? hx)
      rw [hdr, Form.gens]
      refine Tr.step (fun m => by rw [m_impl_general_l3, ltN hk, cond_true, idx_nat hx, Option.bind_some]) (Tr.bind (v := isDots x) (named_tr x dotsN) ?_)
      refine Tr.eq (fun m => by rw [idx_nat hy, Option.bind_some]) (Tr.bind (v := isDots p.kids[k]) (named_tr p.kids[k] dotsN) ?_)
      cases decide (isDots x ≠ isDots p.kids[k]) with
      | true => exact Tr.tt rfl Tr.val
      | false =>
      rw [cond_false]
      refine Tr.ff rfl ?_
      cases isDots x with
      | true => exact Tr.ff rfl (Tr.eq (fun m => by rw [succN]) ihk)
      | false =>
      rw [Bool.not_false, cond_true]
      refine Tr.tt rfl (Tr.eq (fun m => by rw [Option.bind_some]) (Tr.bind (ih x (by omega) _) ?_))
      cases x.gen lits p.kids[k] with
      | false => exact Tr.tt rfl Tr.val
      | true => exact Tr.ff rfl (Tr.eq (fun m => by rw [succN]) ihk)
theorem litF_under {x : Form} : ∀ {ps l : List Form}, litF ps l = true → x ∈ l → x.name ≠ underN
  | ps, y :: l, h, hx => by
    rw [litF] at h
    simp only [Bool.and_eq_true, Bool.not_eq_true', decide_eq_false_iff_not] at h
    rcases List.mem_cons.1 hx with rfl | hx
    · exact h.2.2.1
    · exact litF_under h.2.2.2.2 hx
theorem inF_under {lits : List Form} {q : Form} (h : litOk lits = true) (hq : q.name = underN) : inF lits q = false := by
  unfold litOk at h
  rw [Bool.and_eq_true] at h
  unfold inF
  rw [Bool.not_eq_false', alls_iff]
  intro x hx
  rw [Bool.not_eq_true']
  refine same_ne (fun e => litF_under h.1 hx ?_)
  rw [e]; exact hq
theorem specGen_n (lits : List Form) (hlo : litOk lits = true) : ∀ (n : Nat) (q : Form), q.w ≤ n → ∀ p : Form, Tr (fun m => m_spec_l5General m p q lits) (q.gen lits p) := by
  intro n
  induction n with
  | zero => intro q h; have := q.w_kids; omega
  | succ n ih =>
    intro q hn p
    have hw := q.w_kids
    have e : q.gen lits p = bif decide (q.kind = 1) && (!decide (q.name = dotsN) && !inF lits q) then true else bif decide (q.kind ≠ 3) then same p q
        else bif decide (p.kind ≠ 3) then false
        else bif decide ((q.kids.length : Int) ≠ (p.kids.length : Int)) then false
        else Form.gens lits q.kids p.kids := by
      rw [Form.gen_eq, same_comm q p]
      unfold isVarB
      by_cases hu : q.name = underN
      · rw [inF_under hlo hu, decide_eq_true hu, decide_eq_false (show ¬ q.name = dotsN by rw [hu]; decide)]
        cases decide (q.kind = 1) <;> rfl
      · rw [decide_eq_false hu]
        cases decide (q.kind = 1) <;> cases decide (q.name = dotsN) <;> cases inF lits q <;> rfl
    rw [e]
    have j1 : Tr (fun m => m_spec_l5General_j1 m p q lits) (bif decide (q.kind ≠ 3) then same p q
        else bif decide (p.kind ≠ 3) then false
        else bif decide ((q.kids.length : Int) ≠ (p.kids.length : Int)) then false
        else Form.gens lits q.kids p.kids) := by
      refine Tr.step (fun m => by rw [m_spec_l5General_j1]) ?_
      cases decide (q.kind ≠ 3) with
      | true => exact Tr.tt rfl (Tr.bind (specFormSame_tr p q) Tr.val)
      | false =>
      rw [cond_false]
      refine Tr.ff rfl ?_
      have no : Tr (fun m => m_spec_l5General_j2 m p q lits true) false := Tr.step (fun m => by rw [m_spec_l5General_j2, cond_true]) Tr.val
      cases decide (p.kind ≠ 3) with
      | true => exact Tr.tt rfl no
      | false =>
      rw [cond_false]
      refine Tr.ff rfl ?_
      by_cases hl : (q.kids.length : Int) = (p.kids.length : Int)
      case neg => rw [decide_eq_true hl, decide_eq_true (show (p.kids.length : Int) ≠ (q.kids.length : Int) from fun h => hl h.symm)]; exact no
      rw [decide_eq_false (show ¬ (q.kids.length : Int) ≠ (p.kids.length : Int) from fun h => h hl), decide_eq_false (show ¬ (p.kids.length : Int) ≠ (q.kids.length : Int) from fun h => h hl.symm), cond_false]
      refine Tr.step (fun m => by rw [m_spec_l5General_j2, cond_false]) ?_
      have key := drop_ind q.kids (fun k zs => Tr (fun m => m_spec_l5General_l3 m p q lits (k : Int)) (Form.gens lits zs (p.kids.drop k))) ?_ ?_ 0 (Nat.zero_le _)
      · exact key
      · exact Tr.step (fun m => by rw [m_spec_l5General_l3, hl, ltN_self, cond_false, Form.gens]) Tr.val
      · intro k x zs hk hx hd ihk
        have hk2 : k < p.kids.length := by omega
        have hdr : p.kids.drop k = p.kids[k] :: p.kids.drop (k + 1) := List.drop_eq_getElem_cons hk2
        have hy : p.kids[k]? = some p.kids[k] := List.getElem?_eq_getElem hk2
        have hxw := Form.ws_mem (List.mem_of_getElem? hx)
        rw [hdr, Form.gens]
        refine Tr.step (fun m => by rw [m_spec_l5General_l3, ltN hk2, cond_true, idx_nat hy, Option.bind_some]) (Tr.bind (l4Dots_tr p.kids[k]) ?_)
        refine Tr.eq (fun m => by rw [idx_nat hx, Option.bind_some]) (Tr.bind (l4Dots_tr x) ?_)
        by_cases hxy : isDots x = isDots p.kids[k]
        case neg => rw [decide_eq_true hxy, decide_eq_true (show isDots p.kids[k] ≠ isDots x from fun h => hxy h.symm)]; exact Tr.tt rfl Tr.val
        rw [decide_eq_false (show ¬ isDots x ≠ isDots p.kids[k] from fun h => h hxy), decide_eq_false (show ¬ isDots p.kids[k] ≠ isDots x from fun h => h hxy.symm), cond_false]
        refine Tr.ff rfl (Tr.eq (fun m => by rw [Option.bind_some]) (Tr.bind (l4Dots_tr p.kids[k]) ?_))
        rw [← hxy]
        cases isDots x with
        | true => exact Tr.ff rfl (Tr.eq (fun m => by rw [succN]) ihk)
        | false =>
        rw [Bool.not_false, cond_true]
        refine Tr.tt rfl (Tr.eq (fun m => by rw [Option.bind_some, Option.bind_some]) (Tr.bind (ih x (by omega) _) ?_))
        cases x.gen lits p.kids[k] with
        | false => exact Tr.tt rfl Tr.val
        | true => exact Tr.ff rfl (Tr.eq (fun m => by rw [succN]) ihk)
    refine Tr.step (fun m => by rw [m_spec_l5General, dec_ne]) ?_
    cases decide (q.kind = 1) with
    | false => exact Tr.ff rfl j1
    | true =>
    rw [Bool.true_and]
    refine Tr.tt rfl ?_
    cases hdn : decide (q.name = dotsN) with
    | true => exact Tr.ff rfl j1
    | false =>
    rw [Bool.not_false, Bool.true_and]
    refine Tr.tt rfl (Tr.bind (l4In_tr lits q) ?_)
    cases inF lits q with
    | true => exact Tr.ff rfl j1
    | false => exact Tr.tt rfl Tr.val
noncomputable def deadB (lits : List Form) (xs : List Rule) (x : Rule) : Bool := !alls (fun r => !r.pattern.gen lits x.pattern) xs
noncomputable def deads (lits : List Form) (rules : List Rule) : Nat → List Rule → List Int
  | _, [] => []
  | k, x :: xs => (bif deadB lits (rules.take k) x then [(k : Int)] else []) ++ deads lits rules (k + 1) xs
noncomputable def deadR (rules : List Rule) (lits : List Form) : List Int := bif rulesOkB rules lits then deads lits rules 0 rules else []
theorem mem_deads {lits : List Form} {rules : List Rule} {i : Nat} : ∀ {zs : List Rule} {k : Nat}, (i : Int) ∈ deads lits rules k zs → ∃ j x, i = k + j ∧ zs[j]? = some x ∧ deadB lits (rules.take i) x = true
  | [], k, h => by rw [deads] at h; cases h
  | x :: xs, k, h => by
    rw [deads, List.mem_append] at h
    rcases h with h | h
    · cases hd : deadB lits (rules.take k) x with
      | false => rw [hd] at h; cases h
      | true =>
        rw [hd, cond_true, List.mem_singleton] at h
        have : i = k := by omega
        subst this
        exact ⟨0, x, rfl, rfl, hd⟩
    · obtain ⟨j, y, h1, h2, h3⟩ := mem_deads h
      exact ⟨j + 1, y, by omega, by simpa using h2, h3⟩
theorem implDead_tr (rules : List Rule) (lits : List Form) (hr : RulesF rules) (hl : Form.fits lits) : Tr (fun m => m_impl_DeadRules m rules lits) (deadR rules lits) := by
  refine Tr.eq (fun m => by unfold m_impl_DeadRules; rfl) (Tr.bind (rulesOk_tr rules lits (fun r h => ⟨hr.fit r h, hr.pw r h, hr.tw r h⟩) hl) ?_)
  unfold deadR
  cases hro : rulesOkB rules lits with
  | false => exact Tr.tt rfl Tr.val
  | true =>
  have hlen := (rulesOk_all hro).2
  refine Tr.ff rfl ?_
  have key := drop_ind rules (fun k zs => ∀ g : List Int, g.length ≤ k → Tr (fun m => m_impl_DeadRules_l1 m rules lits g (k : Int)) (g ++ deads lits rules k zs)) ?_ ?_ 0 (Nat.zero_le _) [] (by simp)
  · exact key
  · intro g hg
    rw [deads, List.append_nil]
    exact Tr.step (fun m => by rw [m_impl_DeadRules_l1, ltN_self, cond_false]) Tr.val
  · intro k x zs hk hx hd ih g hg
    refine Tr.step (fun m => by rw [m_impl_DeadRules_l1, ltN hk, cond_true, idx_nat hx, Option.bind_some, sub_take (by omega), Option.bind_some]) ?_
    refine Tr.bind (v := deadB lits (rules.take k) x) (Tr.eq (fun m => by unfold m_slices_ContainsFunc_Rule_DeadRules_1; rfl) (Tr.bind (v := fnd (fun r => r.pattern.gen lits x.pattern) (rules.take k) 0) ?_ (Tr.of fun m => by rw [fnd_none]; rfl))) ?_
    · refine Tr.eq (fun m => by unfold m_slices_IndexFunc_Rule_DeadRules_1; rfl) ?_
      exact loop_find (L := fun m j => m_slices_IndexFunc_Rule_DeadRules_1_l1 m (rules.take k) x lits j) (E := fun m y => m_impl_DeadRules_1 m y x lits) (fun m j => by rw [m_slices_IndexFunc_Rule_DeadRules_1_l1]) (fun y _ => Tr.eq (fun m => by unfold m_impl_DeadRules_1; rfl) (Tr.bind (implGen_n lits _ y.pattern (Nat.le_refl _) x.pattern) Tr.val))
    rw [deads]
    cases deadB lits (rules.take k) x with
    | false => exact Tr.ff rfl (Tr.eq (fun m => by rw [succN]) (ih g (by omega)))
    | true =>
      rw [cond_true, ← List.append_assoc]
      refine Tr.tt rfl (Tr.chk (decide_eq_true (by simp; omega)) (Tr.eq (fun m => by rw [succN]) (ih (g ++ [(k : Int)]) (by simp; omega))))
theorem specDead_tr (rules : List Rule) (lits : List Form) (hr : RulesF rules) (hl : Form.fits lits) (hlw : Form.ws lits ≤ 2 ^ 36) : Tr (fun m => m_spec_DeadRules m rules lits) (deadR rules lits) := by
  refine Tr.eq (fun m => by unfold m_spec_DeadRules; rfl) ?_
  have hro := l5Rules_tr rules lits (fun r h => ⟨⟨hr.pw r h, (hr.fit r h).1⟩, ⟨hr.tw r h, (hr.fit r h).2⟩⟩) hl hlw
  unfold deadR
  cases hrb : rulesOkB rules lits with
  | false =>
    rw [hrb] at hro
    have no : Tr (fun m => m_spec_DeadRules_j2 m rules lits ([] : List Int) 0 false) ([] : List Int) := Tr.step (fun m => by rw [m_spec_DeadRules_j2, cond_false]) Tr.val
    refine Tr.step (fun m => by rw [m_spec_DeadRules_l1]) ?_
    cases decide ((0 : Int) < (rules.length : Int)) with
    | false => exact Tr.ff rfl no
    | true => exact Tr.tt rfl (Tr.bind hro no)
  | true =>
  rw [hrb] at hro
  have hlen := (rulesOk_all hrb).2
  have hlo : litOk lits = true := by unfold rulesOkB at hrb; simp only [Bool.and_eq_true] at hrb; exact hrb.2.2
  have key := drop_ind rules (fun k zs => ∀ g : List Int, g.length ≤ k → Tr (fun m => m_spec_DeadRules_l1 m rules lits g (k : Int)) (g ++ deads lits rules k zs)) ?_ ?_ 0 (Nat.zero_le _) [] (by simp)
  · exact key
  · intro g hg
    rw [deads, List.append_nil]
    exact Tr.step (fun m => by rw [m_spec_DeadRules_l1, ltN_self, cond_false]) (Tr.step (fun m => by rw [m_spec_DeadRules_j2, cond_false]) Tr.val)
  · intro k x zs hk hx hd ih g hg
    refine Tr.step (fun m => by rw [m_spec_DeadRules_l1, ltN hk, cond_true]) (Tr.bind hro (Tr.step (fun m => by rw [m_spec_DeadRules_j2, cond_true]) ?_))
    have j3 : ∀ b, b = deadB lits (rules.take k) x → Tr (fun m => m_spec_DeadRules_j3 m rules lits g (k : Int) b) (g ++ deads lits rules k (x :: zs)) := by
      intro b hb
      rw [deads, ← hb]
      refine Tr.step (fun m => by rw [m_spec_DeadRules_j3, w64_in (by omega), succN]) ?_
      cases b with
      | false => exact Tr.ff rfl (ih g (by omega))
      | true =>
        rw [cond_true, ← List.append_assoc]
        exact Tr.tt rfl (Tr.chk (decide_eq_true (by simp; omega)) (ih (g ++ [(k : Int)]) (by simp; omega)))
    have hlt : (rules.take k).length = k := by rw [List.length_take]; omega
    have inner := drop_ind (rules.take k) (fun j us => (!alls (fun r => !r.pattern.gen lits x.pattern) us) = deadB lits (rules.take k) x → Tr (fun m => m_spec_DeadRules_l4 m rules lits g (k : Int) false (j : Int)) (g ++ deads lits rules k (x :: zs))) ?_ ?_ 0 (Nat.zero_le _) rfl
    · exact inner
    · intro hb
      rw [hlt]
      exact Tr.step (fun m => by rw [m_spec_DeadRules_l4, ltN_self, cond_false]) (Tr.step (fun m => by rw [m_spec_DeadRules_j5, cond_false]) (j3 false hb))
    · intro j y zs' hj hy hd' ihj hb
      have hjk : j < k := by omega
      have hy2 : rules[j]? = some y := by rw [List.getElem?_take_of_lt hjk] at hy; exact hy
      refine Tr.step (fun m => by rw [m_spec_DeadRules_l4, ltI (by omega : (j : Int) < (k : Int)), cond_true, Bool.not_false]) (Tr.step (fun m => by rw [m_spec_DeadRules_j5, cond_true, idx_nat hx, Option.bind_some, idx_nat hy2, Option.bind_some]) ?_)
      refine Tr.bind (specGen_n lits hlo _ y.pattern (Nat.le_refl _) x.pattern) ?_
      rw [alls] at hb
      refine Tr.eq (fun m => by rw [w64_in (by omega), succN]) ?_
      cases hgen : y.pattern.gen lits x.pattern with
      | false => rw [hgen] at hb; exact ihj hb
      | true =>
        rw [hgen] at hb
        refine Tr.step (fun m => by rw [m_spec_DeadRules_l4, Bool.not_true]) ?_
        exact Tr.step (fun m => by rw [m_spec_DeadRules_j5, cond_false]; cases decide (((j + 1 : Nat) : Int) < (k : Int)) <;> rfl) (j3 true hb)
theorem DrawDeadRules_tq (code : List Int) (hc : ∀ x ∈ code, 0 ≤ x ∧ x < 256) : TQ (fun m => m_spec_DrawDeadRules m code) (fun r => RulesF r.1 ∧ Form.ws r.2 ≤ 400 ∧ Form.fits r.2 ∧ ∀ x ∈ r.1, DrR 200 x) := by
  refine TQ.eq (fun m => by unfold m_spec_DrawDeadRules; rfl) ?_
  refine TQ.bind (l5Case_tq code hc) (fun c hcc => TQ.bind (open_tq code hc) (fun o ho => TQ.bind (pick_tq o _ _ ho (by omega)) (fun v hv => ?_)))
  have w1 := hv.1
  have hlen := hcc.len
  refine TQ.cond (fun _ => ?_) (fun _ => TQ.val ⟨hcc.rf, hcc.lw, hcc.lf, hcc.r⟩)
  refine TQ.bind (pick_tq _ _ _ w1 (by omega)) (fun w hw => ?_)
  obtain ⟨_, _, h2, _⟩ := hw
  obtain ⟨h2, h3⟩ := h2 (by have := hcc.ne; omega)
  refine TQ.idx h2 h3 (fun x hx => TQ.chk (decide_eq_true (by simp; omega)) (TQ.val ?_))
  have hall : ∀ y ∈ c.2.1 ++ [x], DrR 200 y := fun y hy => by
    rcases List.mem_append.1 hy with hy | hy
    · exact hcc.r y hy
    · rw [List.mem_singleton.1 hy]; exact hcc.r x hx
  exact ⟨⟨fun y hy => ⟨(hall y hy).p.fit, (hall y hy).t.fit⟩, fun y hy => by have := (hall y hy).p.w; omega, fun y hy => by have := (hall y hy).t.w; omega⟩, hcc.lw, hcc.lf, hall⟩
theorem FnDeadRules_law (c1 c2 : List Int) (hc1 : ∀ x ∈ c1, 0 ≤ x ∧ x < 256) (hc2 : ∀ x ∈ c2, 0 ≤ x ∧ x < 256) : TQ (fun m => m_laws_FnDeadRules m c1 c2) (fun r => r = true) := by
  have ex : TQ (fun m => m_laws_FnDeadRules_j1 m c1 c2 true) (fun r => r = true) := TQ.step (fun m => by rw [m_laws_FnDeadRules_j1, cond_true]) (TQ.val rfl)
  refine TQ.eq (fun m => by unfold m_laws_FnDeadRules; rfl) (TQ.cond (fun _ => ex) (fun _ => ?_))
  cases decide (1048576 < (c2.length : Int)) with
  | true => exact ex
  | false =>
  refine TQ.step (fun m => by rw [m_laws_FnDeadRules_j1, cond_false]) (TQ.bind (DrawDeadRules_tq c1 hc1) (fun c hcc => ?_))
  obtain ⟨rules, lits⟩ := c
  obtain ⟨h1, h2, h3, h4⟩ := hcc
  replace h1 : RulesF rules := h1
  replace h2 : Form.ws lits ≤ 400 := h2
  replace h3 : Form.fits lits := h3
  refine TQ.ev (implDead_tr rules lits h1 h3) (TQ.ev (specDead_tr rules lits h1 h3 (by omega)) (TQ.ev (mxInts_tr _ _) ?_))
  rw [same_self]
  refine TQ.cond (fun h => by cases h) (fun _ => TQ.bind (DrawFirstRule_tq c2 hc2) (fun d hdd => ?_))
  obtain ⟨bs, r2, l2, f⟩ := d
  have hD := hdd.2
  have hff : f.fit := hD.f.fit
  refine TQ.ev (implFirst_tr [] rules lits f (fun b hb => by cases hb) (by simp) h1 h3 hff) (TQ.same ?_)
  rcases firstR_cases [] rules lits f with e | ⟨i, r, h, e, g1, g2, g3, g4, g5, g6⟩
  · rw [e]; exact Tr.tt rfl Tr.val
  · rw [e]
    have hin : Tr (fun m => m_laws_mxIn m (deadR rules lits) (i : Int)) (anys (fun a => decide (a = (i : Int))) (deadR rules lits)) := by
      refine Tr.eq (fun m => by unfold m_laws_mxIn; rfl) ?_
      exact loop_any (xs := deadR rules lits) (L := fun m k => m_laws_mxIn_l1 m (deadR rules lits) (i : Int) k) (E := fun m a => some (decide (a = (i : Int)))) (fun m k => by rw [m_laws_mxIn_l1]; rfl) (fun a _ => Tr.val)
    refine Tr.ff rfl (Tr.bind hin ?_)
    have : anys (fun a => decide (a = (i : Int))) (deadR rules lits) = false := by
      rw [← Bool.not_eq_true, anys_iff]
      rintro ⟨a, ha, he⟩
      have ha2 := of_decide_eq_true he
      subst ha2
      unfold deadR at ha
      rw [g4, cond_true] at ha
      obtain ⟨j, x, q1, q2, q3⟩ := mem_deads ha
      have : i = j := by omega
      subst this
      rw [g1] at q2; cases q2
      unfold deadB at q3
      rw [Bool.not_eq_true', ← Bool.not_eq_true, alls_iff] at q3
      refine q3 (fun y hy => ?_)
      cases hgn : y.pattern.gen lits r.pattern with
      | false => rfl
      | true =>
        have := gen_mt [] lits _ _ f hgn (by rw [g2]; rfl)
        have h6 := g6 y hy
        unfold ruleM at h6
        rw [this] at h6; cases h6
    rw [this]; exact Tr.val
end Go.Abs
end
