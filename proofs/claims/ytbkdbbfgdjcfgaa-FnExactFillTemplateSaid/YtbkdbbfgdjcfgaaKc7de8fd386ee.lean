/- A part of the proof: what the functions that the law calls answer, as pure values. -/
import Derived.Test.YtbkdbbfgdjcfgaaK00b9e8259e4a
import Derived.Test.YtbkdbbfgdjcfgaaK560d067bf798
import Derived.Test.YtbkdbbfgdjcfgaaK69e8a0ebd724
import Derived.Test.YtbkdbbfgdjcfgaaKe1805117dd75
import Derived.Test.YtbkdbbfgdjcfgaaKe8177d545ea5
set_option linter.unusedSimpArgs false
set_option linter.unusedVariables false
section
set_option linter.unusedVariables false
set_option linter.unusedSimpArgs false
namespace Go.Abs
def rowH : Nat → List (Form × Int) → List (List Hit) → List Hit
  | _, [], _ => []
  | k, v :: vs, rows => Hit.mk v.1 (v.2 + 1) form0 (rows.map fun r => r.getD k hit0) :: rowH (k + 1) vs rows
def allM {α β : Type} (D : α → Option β) : List α → Option (List β)
  | [] => some []
  | x :: xs => match D x with
    | none => none
    | some y => match allM D xs with
      | none => none
      | some ys => some (y :: ys)
def oapp {α : Type} : Option (List α) → Option (List α) → Option (List α)
  | some a, some b => some (a ++ b)
  | _, _ => none
mutual
noncomputable def Form.mt (bs : List Bind) (lits : List Form) : Form → Form → Option (List Hit)
  | .mk k nm n sc kids, f =>
    bif decide (k = 1) then
      bif decide (nm = underN) then some []
      else bif inF lits (.mk k nm n sc kids) then (bif decide (f.kind = 1) && refS bs (.mk k nm n sc kids) f then some [] else none)
      else some [Hit.mk (.mk k nm n sc kids) 0 f []]
    else bif decide (k = 2) then (bif same (.mk k nm n sc kids) f then some [] else none)
    else bif decide (f.kind ≠ 3) then none else Form.mts bs lits kids f.kids
noncomputable def Form.mts (bs : List Bind) (lits : List Form) : List Form → List Form → Option (List Hit)
  | [], fs => bif decide (fs.length = 0) then some [] else none
  | p :: ps, fs =>
    bif isDots p then Form.mts bs lits ps fs
    else bif nextD ps then
      bif decide (fs.length + 1 < ps.length) then none
      else match allM (fun f => Form.mt bs lits p f) (fs.take (fs.length + 1 - ps.length)) with
        | none => none
        | some rows => oapp (some (rowH 0 (p.vd lits 0) rows)) (Form.mts bs lits ps (fs.drop (fs.length + 1 - ps.length)))
    else match fs with
      | [] => none
      | f :: fs' => oapp (Form.mt bs lits p f) (Form.mts bs lits ps fs')
end
structure PatS (p : Form) : Prop where
  ok : ∃ d, p.isOk d = true
  shp : p.shp = true
def KidS (x : Form) : Prop := (∃ d, x.isOk d = true) ∧ (isDots x = true ∨ x.shp = true)
theorem isOk_kids {f : Form} {d : Nat} (h : f.isOk d = true) : (f.kind ≠ 3 → f.kids = []) ∧ ∀ x ∈ f.kids, x.isOk (d - 1) = true := by
  rw [Form.isOk_eq] at h
  cases hd : decide (d = 0) with
  | true => rw [hd] at h; cases h
  | false =>
  rw [hd, cond_false] at h
  by_cases h1 : f.kind = 1
  · rw [decide_eq_true h1, cond_true] at h
    simp only [Bool.and_eq_true, decide_eq_true_eq] at h
    have : f.kids = [] := List.eq_nil_of_length_eq_zero (by omega)
    exact ⟨fun _ => this, fun x hx => by rw [this] at hx; cases hx⟩
  · rw [decide_eq_false h1, cond_false] at h
    by_cases h2 : f.kind = 2
    · rw [decide_eq_true h2, cond_true] at h
      simp only [Bool.and_eq_true, decide_eq_true_eq] at h
      have : f.kids = [] := List.eq_nil_of_length_eq_zero (by omega)
      exact ⟨fun _ => this, fun x hx => by rw [this] at hx; cases hx⟩
    · rw [decide_eq_false h2, cond_false] at h
      simp only [Bool.and_eq_true, decide_eq_true_eq] at h
      obtain ⟨h3, _, _, _, h4⟩ := h
      exact ⟨fun hn => absurd h3 hn, fun x hx => alls_iff.1 h4 x hx⟩
theorem kP_mem : ∀ {l : List Form} {pd : Bool}, Form.kP pd l = true → ∀ x ∈ l, isDots x = true ∨ x.shp = true
  | y :: ys, pd, h, x, hx => by
    rw [Form.kP, Bool.and_eq_true] at h
    rcases List.mem_cons.1 hx with rfl | hx
    · cases hd : isDots x with
      | true => exact .inl rfl
      | false => have := h.1; rw [hd, cond_false] at this; exact .inr this
    · exact kP_mem h.2 x hx
theorem PatS.parts {p : Form} (h : PatS p) : isDots p = false ∧ Form.kP true p.kids = true ∧ cntD p.kids ≤ 1 ∧ (∀ x ∈ p.kids, KidS x) ∧ (p.kind ≠ 3 → p.kids = []) := by
  obtain ⟨⟨d, hd⟩, hs⟩ := h
  rw [Form.shp_eq, Bool.and_eq_true, Bool.and_eq_true, Bool.not_eq_true', decide_eq_true_eq] at hs
  obtain ⟨k1, k2⟩ := isOk_kids hd
  exact ⟨hs.1, hs.2.1, hs.2.2, fun x hx => ⟨⟨_, k2 x hx⟩, kP_mem hs.2.1 x hx⟩, k1⟩
theorem KidS.dots {x : Form} (h : KidS x) (hd : isDots x = true) (lits : List Form) : x.vs lits = [] ∧ isVarB lits x = false ∧ x.kids = [] := by
  obtain ⟨⟨d, h⟩, _⟩ := h
  unfold isDots at hd
  rw [Bool.and_eq_true, decide_eq_true_eq, decide_eq_true_eq] at hd
  have hk : x.kids = [] := (isOk_kids h).1 (by omega)
  have hv : isVarB lits x = false := by unfold isVarB; rw [decide_eq_true hd.1, decide_eq_true hd.2]; rfl
  exact ⟨by rw [Form.vs_eq, hk, hv]; rfl, hv, hk⟩
theorem Hit.fits_of_mem : ∀ {l : List Hit}, (∀ x ∈ l, x.fit) → Hit.fits l
  | [], _ => by rw [Hit.fits]; trivial
  | x :: l, h => by rw [Hit.fits]; exact ⟨h x (by simp), Hit.fits_of_mem (fun y hy => h y (by simp [hy]))⟩
theorem Form.fits_of_mem : ∀ {l : List Form}, (∀ x ∈ l, x.fit) → Form.fits l
  | [], _ => by rw [Form.fits]; trivial
  | x :: l, h => by rw [Form.fits]; exact ⟨h x (by simp), Form.fits_of_mem (fun y hy => h y (by simp [hy]))⟩
theorem form0_fit : form0.fit := by rw [Form.fit, Form.fits]; decide
theorem hit0_fit : hit0.fit := by rw [hit0, Hit.fit, Hit.fits]; exact ⟨form0_fit, form0_fit, by decide, trivial⟩
end Go.Abs
end
section
set_option linter.unusedVariables false
set_option linter.unusedSimpArgs false
namespace Go.Abs
def MR (o : Option (List Hit)) (out : List Hit) (r : List Hit × Bool) : Prop := r.2 = o.isSome ∧ ∀ h, o = some h → r.1 = out ++ h
theorem MR.none {out : List Hit} {x : List Hit} : MR none out (x, false) := ⟨rfl, fun h hh => by cases hh⟩
end Go.Abs
end
section
set_option linter.unusedVariables false
set_option linter.unusedSimpArgs false
namespace Go.Abs
def Bind.fit (b : Bind) : Prop := b.name.size ≤ 9223372036854775807 ∧ b.scopes.length ≤ 9223372036854775807
end Go.Abs
end
section
set_option linter.unusedVariables false
set_option linter.unusedSimpArgs false
namespace Go.Abs
def sumW {α : Type} (W : α → Nat) : List α → Nat
  | [] => 0
  | x :: xs => W x + sumW W xs
def Bind.wt (b : Bind) : Nat := b.name.size + b.scopes.length
def Rule.wt (r : Rule) : Nat := r.pattern.wt + r.template.wt
def Macro.wt (m : Macro) : Nat := Form.wts m.literals + (m.rules.length + sumW Rule.wt m.rules)
def Expansion.wt (x : Expansion) : Nat := (x.binds.length + sumW Bind.wt x.binds) + (x.macros.length + sumW Macro.wt x.macros)
structure Rule.fit (r : Rule) : Prop where
  p : r.pattern.fit
  t : r.template.fit
structure Macro.fit (m : Macro) : Prop where
  ll : m.literals.length ≤ 9223372036854775807
  l : Form.fits m.literals
  rl : m.rules.length ≤ 9223372036854775807
  r : ∀ r ∈ m.rules, r.fit
structure Expansion.fit (x : Expansion) : Prop where
  bl : x.binds.length ≤ 9223372036854775807
  b : ∀ b ∈ x.binds, b.fit
  ml : x.macros.length ≤ 9223372036854775807
  m : ∀ m ∈ x.macros, m.fit
end Go.Abs
end
section
set_option linter.unusedVariables false
set_option linter.unusedSimpArgs false
namespace Go.Abs
theorem isOk_mono : ∀ (n : Nat) (f : Form), f.w ≤ n → ∀ d e, d ≤ e → f.isOk d = true → f.isOk e = true := by
  intro n
  induction n with
  | zero => intro f h; have := f.w_kids; omega
  | succ n ih =>
    intro f hf d e hde h
    have hw := f.w_kids
    rw [Form.isOk_eq] at h ⊢
    by_cases hd : d = 0
    · rw [decide_eq_true hd] at h; cases h
    rw [decide_eq_false hd, cond_false] at h
    rw [decide_eq_false (show ¬ e = 0 by omega), cond_false]
    cases h1 : decide (f.kind = 1) with
    | true => rw [h1, cond_true] at h; exact h
    | false =>
    rw [h1, cond_false] at h
    rw [cond_false]
    cases h2 : decide (f.kind = 2) with
    | true => rw [h2, cond_true] at h; exact h
    | false =>
    rw [h2, cond_false] at h
    rw [cond_false]
    simp only [Bool.and_eq_true] at h ⊢
    obtain ⟨a, b, c, k, g⟩ := h
    refine ⟨a, b, c, k, ?_⟩
    rw [alls_iff] at g ⊢
    exact fun x hx => ih x (by have := Form.ws_mem hx; omega) (d - 1) (e - 1) (by omega) (g x hx)
theorem cnts_len : ∀ (l : List Form), l.length ≤ Form.cnts l
  | [] => by simp
  | y :: ys => by
    have := cnts_len ys
    have := y.cnt_eq
    rw [Form.cnts, List.length_cons]; omega
def HitD : Nat → Hit → Prop
  | 0, h => h.depth = 0 ∧ h.one.valid = true ∧ h.many = []
  | d + 1, h => h.depth = (d : Int) + 1 ∧ h.one = form0 ∧ h.many.length ≤ 400 ∧ ∀ x ∈ h.many, x.name = h.name ∧ HitD d x
def nameG (f : Form) : Bool := isNm f && (!decide (f.name = dotsN) && !decide (f.name = underN))
theorem HitD.depth {d : Nat} {h : Hit} (hd : HitD d h) : h.depth = (d : Int) := by
  cases d with
  | zero => exact hd.1
  | succ d => rw [hd.1]; omega
theorem HitD.isOk : ∀ (d : Nat) (h : Hit), d ≤ 3 → HitD d h → nameG h.name = true → h.isOk = true
  | 0, h, hd, hh, hn => by
    obtain ⟨h1, h2, h3⟩ := hh
    unfold nameG at hn
    simp only [Bool.and_eq_true] at hn
    rw [Hit.isOk_eq, hn.1, hn.2.1, hn.2.2, h1, h2, h3]; rfl
  | d + 1, h, hd, hh, hn => by
    obtain ⟨h1, h2, h3, h4⟩ := hh
    have hn0 := hn
    unfold nameG at hn
    simp only [Bool.and_eq_true] at hn
    rw [Hit.isOk_eq, hn.1, hn.2.1, hn.2.2, h1, h2, same_self, decide_eq_false (show ¬ (d : Int) + 1 = 0 by omega), decide_eq_true (show (0 : Int) ≤ (d : Int) + 1 by omega), decide_eq_true (show (d : Int) + 1 ≤ 3 by omega), decide_eq_true (show (h.many.length : Int) ≤ 400 by omega)]
    simp only [Bool.true_and, cond_false]
    rw [alls_iff]
    intro x hx
    obtain ⟨e1, e2⟩ := h4 x hx
    rw [e1, same_self, e2.depth, decide_eq_true (show (d : Int) = (d : Int) + 1 - 1 by omega), HitD.isOk d x (by omega) e2 (by rw [e1]; exact hn0)]
    rfl
theorem hvF_of : ∀ {l : List Hit} {ps : List Hit}, (∀ x ∈ l, x.isOk = true) → distF (ps.map Hit.name) (l.map Hit.name) = true → hvF ps l = true
  | [], ps, _, _ => by rw [hvF]
  | x :: l, ps, h, hd => by
    rw [List.map_cons, distF, Bool.and_eq_true] at hd
    rw [hvF, Bool.and_eq_true, Bool.and_eq_true]
    refine ⟨h x (by simp), ?_, hvF_of (fun y hy => h y (by simp [hy])) (by rw [List.map_append]; exact hd.2)⟩
    have h1 := hd.1
    unfold inF at h1
    rw [Bool.not_not, alls_iff] at h1
    rw [alls_iff]
    exact fun y hy => h1 y.name (List.mem_map_of_mem hy)
theorem cnts_append : ∀ (a b : List Form), Form.cnts (a ++ b) = Form.cnts a + Form.cnts b
  | [], b => by rw [List.nil_append, Form.cnts, Nat.zero_add]
  | x :: a, b => by rw [List.cons_append, Form.cnts, Form.cnts, cnts_append a b]; omega
end Go.Abs
end
section
set_option linter.unusedVariables false
set_option linter.unusedSimpArgs false
namespace Go.Abs
theorem hvF_apart : ∀ {l ps : List Hit}, hvF ps l = true → ∀ h ∈ l, ∀ p ∈ ps, same p.name h.name = false
  | x :: xs, ps, hv, h, hh, p, hp => by
    rw [hvF, Bool.and_eq_true, Bool.and_eq_true] at hv
    rcases List.mem_cons.1 hh with rfl | hh
    · have := alls_iff.1 hv.2.1 p hp
      simpa using this
    · exact hvF_apart hv.2.2 h hh p (List.mem_append_left _ hp)
theorem hv_dep : ∀ {l ps : List Hit}, hvF ps l = true → ∀ h ∈ l, depF (nd l) h.name = h.depth
  | x :: xs, ps, hv, h, hh => by
    have hv' := hv
    rw [hvF, Bool.and_eq_true, Bool.and_eq_true] at hv
    show depF ((x.name, x.depth) :: nd xs) h.name = h.depth
    rw [depF]
    rcases List.mem_cons.1 hh with rfl | hh
    · rw [same_self, cond_true]
    · rw [hvF_apart hv.2.2 h hh x (by simp), cond_false]
      exact hv_dep hv.2.2 h hh
end Go.Abs
end
section
set_option linter.unusedVariables false
set_option linter.unusedSimpArgs false
namespace Go.Abs
def oR (o : Option (List Hit)) : List Hit × Bool := (o.getD [], o.isSome)
theorem drop_cons' {α : Type} {l xs : List α} {x : α} {k : Nat} (h : l.drop k = x :: xs) : l[k]? = some x ∧ l.drop (k + 1) = xs ∧ k < l.length := by
  have h1 : l[k]? = some x := by have := congrArg (fun l => l[0]?) h; simpa using this
  exact ⟨h1, by rw [← List.drop_drop, h]; rfl, (List.getElem?_eq_some_iff.1 h1).1⟩
structure MatS (bs : List Bind) (lits : List Form) (P F : Form) : Prop where
  kid : ∀ x ∈ P.kids, KidS x
  ih : ∀ x ∈ P.kids, isDots x = false → ∀ f ∈ F.kids, Tr (fun m => m_impl_match m bs x lits f) (oR (x.mt bs lits f))
  wp : Form.ws P.kids ≤ 2 ^ 17
  wf : Form.ws F.kids ≤ 2 ^ 17
section
variable {bs : List Bind} {lits : List Form} {P F : Form}
structure RowS (P F : Form) (xs : List Form) (pr dd : Form) (tail : List Form) : Prop where
  eq : P.kids = xs ++ pr :: dd :: tail
  pre : ∀ x ∈ xs, isDots x = false
  row : isDots pr = false
  dots : isDots dd = true
  post : ∀ x ∈ tail, isDots x = false
  len : xs.length + tail.length ≤ F.kids.length
def RowS.many (F : Form) (xs tail : List Form) : Nat := F.kids.length - (xs.length + tail.length)
variable {xs tail : List Form} {pr dd : Form}
theorem RowS.plen (hR : RowS P F xs pr dd tail) : P.kids.length = xs.length + 2 + tail.length := by rw [hR.eq]; simp; omega
theorem RowS.lens (hS : MatS bs lits P F) (hR : RowS P F xs pr dd tail) : P.kids.length ≤ 2 ^ 17 ∧ F.kids.length ≤ 2 ^ 17 := ⟨Nat.le_trans (Form.ws_len _) hS.wp, Nat.le_trans (Form.ws_len _) hS.wf⟩
theorem RowS.row_eq (hS : MatS bs lits P F) (hR : RowS P F xs pr dd tail) : w64 ((((xs.length + 1 : Nat) : Int)) - 1) = ((xs.length : Nat) : Int) := by
  have h1 := RowS.lens hS hR
  have h2 := hR.plen
  rw [w64_in (by omega)]; omega
end
end Go.Abs
end
section
set_option linter.unusedVariables false
set_option linter.unusedSimpArgs false
namespace Go.Abs
section
variable {bs : List Bind} {lits : List Form} {P F : Form} {xs tail : List Form} {pr dd : Form}
theorem set_end {α : Type} (l : List α) (z v : α) : (l ++ [z]).set (l.length : Int).toNat v = l ++ [v] := by
  rw [Int.toNat_natCast, List.set_append_right _ _ (Nat.le_refl _), Nat.sub_self]; rfl
theorem idx_last {α : Type} (l : List α) (z : α) : idx (l ++ [z]) (l.length : Int) = some z := idx_nat (by simp)
end
end Go.Abs
end
section
set_option linter.unusedVariables false
set_option linter.unusedSimpArgs false
namespace Go.Abs
theorem FormSize_n : ∀ (n : Nat) (f : Form), f.w ≤ n → f.w ≤ 2 ^ 40 → Tr (fun m => m_impl_FormSize m f) (f.cnt : Int) ∧ f.cnt ≤ f.w := by
  intro n
  induction n with
  | zero => intro f h; have := f.w_kids; omega
  | succ n ih =>
    intro f hn hb
    have hw := f.w_kids
    have hc : f.cnt = 1 + Form.cnts f.kids := by obtain ⟨a, b, c, d, e⟩ := f; rw [Form.cnt]; rfl
    have hle : Form.cnts f.kids ≤ Form.ws f.kids := by
      have : ∀ l : List Form, (∀ x ∈ l, x ∈ f.kids) → Form.cnts l ≤ Form.ws l := by
        intro l
        induction l with
        | nil => intro _; rw [Form.cnts]; omega
        | cons x l ihl =>
          intro hx
          have h1 := ihl (fun y hy => hx y (by simp [hy]))
          have h2 := Form.ws_mem (hx x (by simp))
          have h3 := (ih x (by omega) (by omega)).2
          rw [Form.cnts, Form.ws]; omega
      exact this _ (fun x hx => hx)
    refine ⟨?_, by omega⟩
    rw [hc]
    refine Tr.step (fun m => by rw [m_impl_FormSize]) ?_
    have key := drop_ind f.kids (fun k zs => ∀ g : Nat, g + Form.cnts zs = 1 + Form.cnts f.kids → Tr (fun m => m_impl_FormSize_l1 m f (g : Int) (k : Int)) ((1 + Form.cnts f.kids : Nat) : Int)) ?_ ?_ 0 (Nat.zero_le _) 1 (by rw [List.drop_zero])
    · exact key
    · intro g hg
      rw [Form.cnts, Nat.add_zero] at hg
      rw [← hg]
      exact Tr.step (fun m => by rw [m_impl_FormSize_l1, ltN_self, cond_false]) Tr.val
    · intro k x zs hk hx hd ihk g hg
      have hm := List.mem_of_getElem? hx
      have h2 := Form.ws_mem hm
      have h3 := ih x (by omega) (by omega)
      rw [Form.cnts] at hg
      refine Tr.step (fun m => by rw [m_impl_FormSize_l1, ltN hk, cond_true, idx_nat hx, Option.bind_some]) (Tr.bind h3.1 ?_)
      refine Tr.eq (fun m => by rw [w64_in (by omega), succN, show (g : Int) + (x.cnt : Int) = ((g + x.cnt : Nat) : Int) by simp]) (ihk (g + x.cnt) (by omega))
theorem FormSize_tr (f : Form) (h : f.w ≤ 2 ^ 40) : Tr (fun m => m_impl_FormSize m f) (f.cnt : Int) := (FormSize_n _ f (Nat.le_refl _) h).1
end Go.Abs
end
section
set_option linter.unusedVariables false
set_option linter.unusedSimpArgs false
namespace Go.Abs
theorem PatS.kind {p : Form} (h : PatS p) (h1 : ¬ p.kind = 1) (h2 : ¬ p.kind = 2) : p.kind = 3 := by
  obtain ⟨d, hd⟩ := h.ok
  rw [Form.isOk_eq] at hd
  cases hd0 : decide (d = 0) with
  | true => rw [hd0] at hd; cases hd
  | false =>
    rw [hd0, cond_false, decide_eq_false h1, cond_false, decide_eq_false h2, cond_false, Bool.and_eq_true, decide_eq_true_eq] at hd
    exact hd.1
theorem cnt_eq (f : Form) : f.cnt = 1 + Form.cnts f.kids := by obtain ⟨a, b, c, d, e⟩ := f; rw [Form.cnt]; rfl
end Go.Abs
end
section
set_option linter.unusedVariables false
set_option linter.unusedSimpArgs false
namespace Go.Abs
theorem isOk_w : ∀ (n : Nat) (f : Form), f.w ≤ n → ∀ d, f.isOk d = true → f.w + 1 ≤ 26 * f.cnt := by
  intro n
  induction n with
  | zero => intro f h; have := f.w_kids; omega
  | succ n ih =>
    intro f hn d hd
    have hw := f.w_kids
    have hc := cnt_eq f
    obtain ⟨k1, k2⟩ := isOk_kids hd
    have hsc : f.scopes.length ≤ 24 := by
      rw [Form.isOk_eq] at hd
      cases hd0 : decide (d = 0) with
      | true => rw [hd0] at hd; cases hd
      | false =>
      rw [hd0, cond_false] at hd
      by_cases h1 : f.kind = 1
      · rw [decide_eq_true h1, cond_true] at hd
        unfold scOk at hd
        simp only [Bool.and_eq_true, decide_eq_true_eq] at hd
        omega
      · rw [decide_eq_false h1, cond_false] at hd
        by_cases h2 : f.kind = 2
        · rw [decide_eq_true h2, cond_true] at hd
          simp only [Bool.and_eq_true, decide_eq_true_eq] at hd
          omega
        · rw [decide_eq_false h2, cond_false] at hd
          simp only [Bool.and_eq_true, decide_eq_true_eq] at hd
          omega
    have hk : Form.ws f.kids ≤ 26 * Form.cnts f.kids := by
      have : ∀ l : List Form, (∀ x ∈ l, x ∈ f.kids) → Form.ws l ≤ 26 * Form.cnts l := by
        intro l
        induction l with
        | nil => intro _; rw [Form.ws]; omega
        | cons x l ihl =>
          intro hx
          have h1 := ihl (fun y hy => hx y (by simp [hy]))
          have hm := hx x (by simp)
          have h2 := Form.ws_mem hm
          have h3 := ih x (by omega) _ (k2 x hm)
          rw [Form.cnts, Form.ws]; omega
      exact this _ (fun x hx => hx)
    omega
theorem valid_w {f : Form} (h : f.valid = true) : f.w ≤ 10400 := by
  unfold Form.valid at h
  rw [Bool.and_eq_true, decide_eq_true_eq] at h
  have := isOk_w _ f (Nat.le_refl _) 40 h.1
  omega
theorem eqForm_self (f : Form) : Tr (fun m => m_laws_eqForm m f f) true := by have := eqForm_tr f f; rwa [same_self] at this
end Go.Abs
end
section
set_option linter.unusedVariables false
set_option linter.unusedSimpArgs false
namespace Go.Abs
noncomputable def deepB (x : Form) (h : Hit) : Bool := Form.part h.name x && !decide (h.depth = 0)
noncomputable def cntR (x : Form) : Int → List Hit → Option Int
  | n, [] => some n
  | n, h :: hs => bif deepB x h then (bif decide (0 ≤ n) && decide (n ≠ (h.many.length : Int)) then none else cntR x (h.many.length : Int) hs) else cntR x n hs
noncomputable def nthR (x : Form) (n : Nat) (hs : List Hit) : List Hit := hs.map fun h => bif deepB x h then h.many.getD n hit0 else h
def rowF (D : Nat → Option Form) : Nat → Nat → Option (List Form)
  | _, 0 => some []
  | n, k + 1 => match D n with
    | none => none
    | some y => match rowF D (n + 1) k with
      | none => none
      | some ys => some (y :: ys)
noncomputable def findO (hs : List Hit) (t : Form) : Form := bif decide (0 ≤ hAt hs t) then (hs.getD (hAt hs t).toNat hit0).one else t
def fapp : Option (List Form) → Option (List Form) → Option (List Form)
  | some a, some b => some (a ++ b)
  | _, _ => none
mutual
noncomputable def Form.fl : Form → List Hit → Option Form
  | .mk k nm n sc kids, hs => bif decide (k = 1) then some (findO hs (.mk k nm n sc kids))
    else match Form.fls kids hs with
      | none => none
      | some ys => bif decide (Form.cnts ys ≤ 400) then some (.mk k nm n sc ys) else none
noncomputable def Form.fls : List Form → List Hit → Option (List Form)
  | [], _ => some []
  | x :: xs, hs => bif isDots x then Form.fls xs hs
    else fapp (bif nextD xs then (match cntR x (-1) hs with
      | none => none
      | some N => rowF (fun i => Form.fl x (nthR x i hs)) 0 N.toNat) else (match Form.fl x hs with
      | none => none
      | some y => some [y])) (Form.fls xs hs)
end
theorem Form.fl_eq (f : Form) (hs : List Hit) : f.fl hs = bif decide (f.kind = 1) then some (findO hs f)
    else match Form.fls f.kids hs with
      | none => none
      | some ys => bif decide (Form.cnts ys ≤ 400) then some (.mk f.kind f.name f.n f.scopes ys) else none := by
  obtain ⟨a, b, c, d, e⟩ := f; rw [Form.fl]; rfl
theorem Form.fls_eq (x : Form) (xs : List Form) (hs : List Hit) : Form.fls (x :: xs) hs = bif isDots x then Form.fls xs hs
    else fapp (bif nextD xs then (match cntR x (-1) hs with
      | none => none
      | some N => rowF (fun i => Form.fl x (nthR x i hs)) 0 N.toNat) else (match Form.fl x hs with
      | none => none
      | some y => some [y])) (Form.fls xs hs) := by rw [Form.fls]
def DepR (l : List (Form × Int)) (v : Nat) (hs : List Hit) (x : Form) : Prop := ∀ g, Form.part g x = true → (0 < dep l g - v ∨ 0 < dep (nd hs) g) → dep (nd hs) g = dep l g - v
structure FillS (l : List (Form × Int)) (v : Nat) (hs : List Hit) (x : Form) : Prop where
  hv : hvOk hs = true
  rws : x.rws l v = true
  ok : ∃ d, x.isOk d = true
  R : DepR l v hs x
theorem part_self (x : Form) : Form.part x x = true := by rw [Form.part_eq, same_self, Bool.true_or]
theorem part_kid {g x f : Form} (hx : x ∈ f.kids) (h : Form.part g x = true) : Form.part g f = true := by
  rw [Form.part_eq, parts_mem hx h, Bool.or_true]
theorem kR_kid {l : List (Form × Int)} {v : Nat} : ∀ {zs : List Form} {i : Nat} {x : Form}, Form.kR l v zs = true → zs[i]? = some x → isDots x = false → bif nextD (zs.drop (i + 1)) then x.anyD l v = true ∧ x.rws l (v + 1) = true else x.rws l v = true
  | y :: ys, 0, x, h, hx, hd => by
    simp at hx; subst hx
    rw [Form.kR, Bool.and_eq_true, hd, cond_false] at h
    have h1 := h.1
    simp only [List.drop_succ_cons, List.drop_zero]
    cases hn : nextD ys with
    | true => rw [hn, cond_true, Bool.and_eq_true] at h1; exact h1
    | false => rw [hn, cond_false] at h1; exact h1
  | y :: ys, i + 1, x, h, hx, hd => by
    rw [Form.kR, Bool.and_eq_true] at h
    have := kR_kid (zs := ys) (i := i) (x := x) h.2 (by simpa using hx) hd
    simpa using this
mutual
theorem anyD_ex {l : List (Form × Int)} {v : Int} : ∀ f : Form, f.anyD l v = true → ∃ g, Form.part g f = true ∧ v < dep l g
  | .mk a b c d e, h => by
    rw [Form.anyD, Bool.or_eq_true] at h
    rcases h with h | h
    · exact ⟨_, part_self _, of_decide_eq_true h⟩
    · obtain ⟨g, h1, h2⟩ := anyDs_ex e h
      exact ⟨g, by rw [Form.part, h1, Bool.or_true], h2⟩
theorem anyDs_ex {l : List (Form × Int)} {v : Int} : ∀ zs : List Form, Form.anyDs l v zs = true → ∃ g, Form.parts g zs = true ∧ v < dep l g
  | [], h => by rw [Form.anyDs] at h; cases h
  | x :: xs, h => by
    rw [Form.anyDs, Bool.or_eq_true] at h
    rcases h with h | h
    · obtain ⟨g, h1, h2⟩ := anyD_ex x h
      exact ⟨g, by rw [Form.parts, h1, Bool.true_or], h2⟩
    · obtain ⟨g, h1, h2⟩ := anyDs_ex xs h
      exact ⟨g, by rw [Form.parts, h1, Bool.or_true], h2⟩
end
theorem hvOk_all {hs : List Hit} (h : hvOk hs = true) : (∀ x ∈ hs, x.isOk = true) ∧ hs.length ≤ 20 := by
  unfold hvOk at h
  rw [Bool.and_eq_true, decide_eq_true_eq] at h
  refine ⟨?_, by omega⟩
  have : ∀ {l ps : List Hit}, hvF ps l = true → ∀ x ∈ l, x.isOk = true := by
    intro l
    induction l with
    | nil => intro ps _ x hx; cases hx
    | cons y ys ih =>
      intro ps hv x hx
      rw [hvF, Bool.and_eq_true, Bool.and_eq_true] at hv
      rcases List.mem_cons.1 hx with rfl | hx
      · exact hv.1
      · exact ih hv.2.2 x hx
  exact this h.1
theorem isOk_hit {h : Hit} (hk : h.isOk = true) : isNm h.name = true ∧ (0 ≤ h.depth ∧ h.depth ≤ 3) ∧ (h.depth = 0 → h.one.valid = true ∧ h.many = []) ∧ (h.depth ≠ 0 → h.many.length ≤ 400 ∧ ∀ y ∈ h.many, y.name = h.name ∧ y.depth = h.depth - 1 ∧ y.isOk = true) := by
  rw [Hit.isOk_eq] at hk
  simp only [Bool.and_eq_true, decide_eq_true_eq] at hk
  obtain ⟨a, _, _, b, c⟩ := hk
  refine ⟨a, b, fun h0 => ?_, fun h0 => ?_⟩
  · rw [decide_eq_true h0, cond_true, Bool.and_eq_true, decide_eq_true_eq] at c
    exact ⟨c.1, List.eq_nil_of_length_eq_zero (by omega)⟩
  · rw [decide_eq_false h0, cond_false, Bool.and_eq_true, Bool.and_eq_true, decide_eq_true_eq] at c
    refine ⟨by omega, fun y hy => ?_⟩
    have := alls_iff.1 c.2.2 y hy
    rw [Bool.and_eq_true, Bool.and_eq_true, decide_eq_true_eq] at this
    exact ⟨same_iff.1 this.1, this.2.1, this.2.2⟩
theorem hv_name {hs : List Hit} (hv : hvOk hs = true) {h : Hit} (hm : h ∈ hs) : dep (nd hs) h.name = h.depth := by
  have hn := (isOk_hit ((hvOk_all hv).1 h hm)).1
  unfold hvOk at hv
  rw [Bool.and_eq_true] at hv
  unfold isNm at hn
  rw [Bool.and_eq_true, decide_eq_true_eq] at hn
  unfold dep
  rw [decide_eq_false (by simp [hn.1]), cond_false]
  exact hv_dep hv.1 h hm
theorem depF_none {f : Form} : ∀ {l : List Hit}, (∀ h ∈ l, h.name ≠ f) → depF (nd l) f = -1
  | [], _ => rfl
  | x :: xs, h => by
    show depF ((x.name, x.depth) :: nd xs) f = -1
    rw [depF, same_ne (h x (by simp)), cond_false, depF_none (fun y hy => h y (by simp [hy]))]
theorem dep_cases {hs : List Hit} (hv : hvOk hs = true) (g : Form) : (∃ h ∈ hs, h.name = g ∧ dep (nd hs) g = h.depth) ∨ ((∀ h ∈ hs, h.name ≠ g) ∧ dep (nd hs) g = -1) := by
  by_cases hx : ∃ h ∈ hs, h.name = g
  · obtain ⟨h, hm, rfl⟩ := hx
    exact .inl ⟨h, hm, rfl, hv_name hv hm⟩
  · have hn : ∀ h ∈ hs, h.name ≠ g := fun h hm he => hx ⟨h, hm, he⟩
    refine .inr ⟨hn, ?_⟩
    unfold dep
    cases decide (g.kind ≠ 1) with
    | true => rfl
    | false => rw [cond_false]; exact depF_none hn
theorem cntR_some {x : Form} : ∀ {hs : List Hit} {n N : Int}, cntR x n hs = some N → ((N = n ∧ ∀ h ∈ hs, deepB x h = true → False) ∨ (∃ h ∈ hs, deepB x h = true) ∧ ∀ h ∈ hs, deepB x h = true → (h.many.length : Int) = N) ∧ (0 ≤ n → N = n)
  | [], n, N, h => by rw [cntR] at h; cases h; exact ⟨.inl ⟨rfl, fun h hh => by cases hh⟩, fun _ => rfl⟩
  | y :: ys, n, N, h => by
    rw [cntR] at h
    cases hd : deepB x y with
    | false =>
      rw [hd, cond_false] at h
      obtain ⟨h1, h2⟩ := cntR_some h
      refine ⟨?_, h2⟩
      rcases h1 with ⟨e, h1⟩ | ⟨⟨z, hz, hzd⟩, h1⟩
      · exact .inl ⟨e, fun w hw hwd => by
          rcases List.mem_cons.1 hw with rfl | hw
          · rw [hd] at hwd; cases hwd
          · exact h1 w hw hwd⟩
      · exact .inr ⟨⟨z, by simp [hz], hzd⟩, fun w hw hwd => by
          rcases List.mem_cons.1 hw with rfl | hw
          · rw [hd] at hwd; cases hwd
          · exact h1 w hw hwd⟩
    | true =>
      rw [hd, cond_true] at h
      cases hc : (decide (0 ≤ n) && decide (n ≠ (y.many.length : Int))) with
      | true => rw [hc, cond_true] at h; cases h
      | false =>
        rw [hc, cond_false] at h
        obtain ⟨h1, h2⟩ := cntR_some h
        have hN := h2 (by omega)
        refine ⟨.inr ⟨⟨y, by simp, hd⟩, fun w hw hwd => ?_⟩, fun h0 => ?_⟩
        · rcases List.mem_cons.1 hw with rfl | hw
          · exact hN.symm
          · rcases h1 with ⟨_, h1⟩ | ⟨_, h1⟩
            · exact (h1 w hw hwd).elim
            · exact h1 w hw hwd
        · rw [hN]
          rw [Bool.and_eq_false_iff] at hc
          rcases hc with hc | hc
          · exact absurd h0 (of_decide_eq_false hc)
          · have := of_decide_eq_false hc; omega
theorem FillS.kid {l : List (Form × Int)} {v : Nat} {hs : List Hit} {f x : Form} (hF : FillS l v hs f) {i : Nat} (hx : f.kids[i]? = some x) (hd : isDots x = false) (hn : nextD (f.kids.drop (i + 1)) = false) : FillS l v hs x := by
  have hm := List.mem_of_getElem? hx
  have hr := hF.rws
  rw [Form.rws_eq, Bool.and_eq_true] at hr
  have := kR_kid hr.2 hx hd
  rw [hn, cond_false] at this
  obtain ⟨d, hok⟩ := hF.ok
  exact ⟨hF.hv, this, ⟨_, (isOk_kids hok).2 x hm⟩, fun g hg => hF.R g (part_kid hm hg)⟩
theorem many_mem {h : Hit} {n : Nat} (hn : n < h.many.length) : h.many.getD n hit0 ∈ h.many := by
  rw [List.getD_eq_getElem?_getD, List.getElem?_eq_getElem hn]; exact List.getElem_mem hn
theorem nthR_names {x : Form} {n : Nat} : ∀ {hs : List Hit}, (∀ h ∈ hs, h.isOk = true) → (∀ h ∈ hs, deepB x h = true → n < h.many.length) → (nthR x n hs).map Hit.name = hs.map Hit.name
  | [], _, _ => rfl
  | h :: hs, hk, hn => by
    have ih := nthR_names (x := x) (n := n) (hs := hs) (fun y hy => hk y (by simp [hy])) (fun y hy => hn y (by simp [hy]))
    show (bif deepB x h then h.many.getD n hit0 else h).name :: (nthR x n hs).map Hit.name = h.name :: hs.map Hit.name
    rw [ih]
    cases hd : deepB x h with
    | false => rfl
    | true =>
      rw [cond_true]
      have h0 : h.depth ≠ 0 := by
        unfold deepB at hd
        rw [Bool.and_eq_true, Bool.not_eq_true', decide_eq_false_iff_not] at hd
        exact hd.2
      rw [(((isOk_hit (hk h (by simp))).2.2.2 h0).2 _ (many_mem (hn h (by simp) hd))).1]
theorem hvF_dist : ∀ {l ps : List Hit}, hvF ps l = true → distF (ps.map Hit.name) (l.map Hit.name) = true
  | [], ps, _ => rfl
  | x :: xs, ps, h => by
    rw [hvF, Bool.and_eq_true, Bool.and_eq_true] at h
    have ih := hvF_dist h.2.2
    rw [List.map_append] at ih
    rw [List.map_cons, distF]
    have h1 : inF (ps.map Hit.name) x.name = false := by
      unfold inF
      rw [alls_iff.2 (fun y hy => ?_)]
      · rfl
      · obtain ⟨z, hz, rfl⟩ := List.mem_map.1 hy
        exact alls_iff.1 h.2.1 z hz
    rw [h1]; simpa using ih
theorem nthR_hv {x : Form} {n : Nat} {hs : List Hit} (hv : hvOk hs = true) (hn : ∀ h ∈ hs, deepB x h = true → n < h.many.length) : hvOk (nthR x n hs) = true := by
  obtain ⟨h1, h2⟩ := hvOk_all hv
  have hnm := nthR_names h1 hn
  unfold hvOk at hv ⊢
  rw [Bool.and_eq_true] at hv ⊢
  refine ⟨hvF_of (fun y hy => ?_) ?_, ?_⟩
  · obtain ⟨h, hm, rfl⟩ := List.mem_map.1 hy
    cases hd : deepB x h with
    | false => exact h1 h hm
    | true =>
      rw [cond_true]
      have h0 : h.depth ≠ 0 := by
        unfold deepB at hd
        rw [Bool.and_eq_true, Bool.not_eq_true', decide_eq_false_iff_not] at hd
        exact hd.2
      exact (((isOk_hit (h1 h hm)).2.2.2 h0).2 _ (many_mem (hn h hm hd))).2.2
  · rw [hnm]; exact hvF_dist hv.1
  · have : (nthR x n hs).length = hs.length := by unfold nthR; rw [List.length_map]
    rw [this]; exact hv.2
theorem FillS.row {l : List (Form × Int)} {v : Nat} {hs : List Hit} {f x : Form} (hF : FillS l v hs f) {i : Nat} (hx : f.kids[i]? = some x) (hd : isDots x = false) (hn : nextD (f.kids.drop (i + 1)) = true) :
    (∃ h ∈ hs, deepB x h = true) ∧ ∀ n, (∀ h ∈ hs, deepB x h = true → n < h.many.length) → FillS l (v + 1) (nthR x n hs) x := by
  have hm := List.mem_of_getElem? hx
  have hr := hF.rws
  rw [Form.rws_eq, Bool.and_eq_true] at hr
  have hk := kR_kid hr.2 hx hd
  rw [hn, cond_true] at hk
  obtain ⟨d, hok⟩ := hF.ok
  refine ⟨?_, fun n hlen => ⟨nthR_hv hF.hv hlen, hk.2, ⟨_, (isOk_kids hok).2 x hm⟩, fun g hg hpos => ?_⟩⟩
  · obtain ⟨g, h1, h2⟩ := anyD_ex x hk.1
    have hR := hF.R g (part_kid hm h1) (.inl (by omega))
    rcases dep_cases hF.hv g with ⟨h, hmem, rfl, he⟩ | ⟨_, he⟩
    · refine ⟨h, hmem, ?_⟩
      unfold deepB
      rw [h1, Bool.true_and, decide_eq_false (by omega)]; rfl
    · omega
  · have hR := hF.R g (part_kid hm hg)
    rcases dep_cases hF.hv g with ⟨h, hmem, rfl, he⟩ | ⟨hno, he⟩
    · have hin : (bif deepB x h then h.many.getD n hit0 else h) ∈ nthR x n hs := List.mem_map.2 ⟨h, hmem, rfl⟩
      have hok := isOk_hit ((hvOk_all hF.hv).1 h hmem)
      by_cases h0 : h.depth = 0
      · have hdp : deepB x h = false := by unfold deepB; rw [decide_eq_true h0]; simp
        rw [hdp, cond_false] at hin
        have := hv_name (nthR_hv hF.hv hlen) hin
        rcases hpos with hp | hp
        · have := hR (.inl (by omega)); omega
        · omega
      · have hdp : deepB x h = true := by unfold deepB; rw [hg, decide_eq_false h0]; rfl
        rw [hdp, cond_true] at hin
        have hnm := (hok.2.2.2 h0).2 _ (many_mem (hlen h hmem hdp))
        have h2 := hv_name (nthR_hv hF.hv hlen) hin
        rw [hnm.1, hnm.2.1] at h2
        have := hR (.inr (by have := hok.2.1.1; omega))
        rw [h2]; omega
    · have h2 : dep (nd (nthR x n hs)) g = -1 := by
        rcases dep_cases (nthR_hv hF.hv hlen) g with ⟨h', hmem', hnm', _⟩ | ⟨_, he'⟩
        · have : h'.name ∈ (nthR x n hs).map Hit.name := List.mem_map.2 ⟨h', hmem', rfl⟩
          rw [nthR_names (hvOk_all hF.hv).1 hlen] at this
          obtain ⟨h, hmem, hnm⟩ := List.mem_map.1 this
          exact absurd (hnm.trans hnm') (hno h hmem)
        · exact he'
      rcases hpos with hp | hp
      · have := hR (.inl (by omega)); omega
      · omega
theorem FillS.leaf {l : List (Form × Int)} {v : Nat} {hs : List Hit} {x : Form} (hF : FillS l v hs x) : hAt hs x = -1 ∨ ∃ i h, hAt hs x = ((i : Nat) : Int) ∧ hs[i]? = some h ∧ h.depth = 0 ∧ h.one.valid = true := by
  rcases fnd_at (D := fun y : Hit => same y.name x) (l := hs) (k := 0) with ⟨h1, _⟩ | ⟨i, h, h1, h2, h3, _⟩
  · exact .inl h1
  · have hm := List.mem_of_getElem? h2
    have hn : h.name = x := same_iff.1 h3
    have hok := isOk_hit ((hvOk_all hF.hv).1 h hm)
    have hd := hv_name hF.hv hm
    rw [hn] at hd
    have hr := hF.rws
    rw [Form.rws_eq, Bool.and_eq_true, Bool.not_eq_true', decide_eq_false_iff_not] at hr
    have h0 : h.depth = 0 := by
      by_cases hp : 0 < h.depth
      · have := hF.R x (part_self x) (.inr (by omega)); omega
      · have := hok.2.1.1; omega
    exact .inr ⟨i, h, by unfold hAt; rw [h1, Nat.zero_add], h2, h0, (hok.2.2.1 h0).1⟩
structure FormF (y : Form) : Prop where
  ok : ∃ d, y.isOk d = true
  cnt : y.cnt ≤ 401
theorem FormF.w {y : Form} (h : FormF y) : y.w ≤ 10426 := by
  obtain ⟨d, hd⟩ := h.ok
  have := isOk_w _ y (Nat.le_refl _) d hd
  have := h.cnt; omega
theorem all_isOk : ∀ {l : List Form}, (∀ y ∈ l, ∃ d, y.isOk d = true) → ∃ D, ∀ y ∈ l, y.isOk D = true
  | [], _ => ⟨0, fun y hy => by cases hy⟩
  | x :: xs, h => by
    obtain ⟨D, hD⟩ := all_isOk (l := xs) (fun y hy => h y (by simp [hy]))
    obtain ⟨d, hd⟩ := h x (by simp)
    refine ⟨D + d, fun y hy => ?_⟩
    rcases List.mem_cons.1 hy with rfl | hy
    · exact isOk_mono _ y (Nat.le_refl _) d _ (by omega) hd
    · exact isOk_mono _ y (Nat.le_refl _) D _ (by omega) (hD y hy)
theorem isOk_node {f : Form} {d : Nat} (h : f.isOk d = true) (h1 : ¬ f.kind = 1) {ys : List Form} (hk : f.kind = 3 ∨ ys = []) {D : Nat} (hD : ∀ y ∈ ys, y.isOk D = true) : f.name = (⟨#[]⟩ : ByteArray) ∧ f.scopes = [] ∧ (Form.mk f.kind f.name f.n f.scopes ys).isOk (D + 1) = true := by
  rw [Form.isOk_eq] at h
  cases hd0 : decide (d = 0) with
  | true => rw [hd0] at h; cases h
  | false =>
  rw [hd0, cond_false, decide_eq_false h1, cond_false] at h
  have hd1 : decide (D + 1 = 0) = false := decide_eq_false (by omega)
  generalize f.kind = k at h h1 hk ⊢
  generalize f.name = nm at h ⊢
  generalize f.n = n at h ⊢
  generalize f.scopes = sc at h ⊢
  rw [Form.isOk, Form.isOks_eq, hd1, cond_false, decide_eq_false h1, cond_false]
  by_cases h2 : k = 2
  · rw [decide_eq_true h2, cond_true] at h ⊢
    simp only [Bool.and_eq_true, decide_eq_true_eq] at h ⊢
    obtain ⟨a, b, c, e⟩ := h
    have hy : ys = [] := by
      rcases hk with hk | hk
      · omega
      · exact hk
    subst hy
    exact ⟨a, List.eq_nil_of_length_eq_zero (by omega), a, b, c, by simp⟩
  · rw [decide_eq_false h2, cond_false] at h ⊢
    simp only [Bool.and_eq_true, decide_eq_true_eq] at h ⊢
    obtain ⟨a, b, c, e, g⟩ := h
    exact ⟨b, List.eq_nil_of_length_eq_zero (by omega), a, b, c, e, alls_iff.2 (fun y hy => hD y hy)⟩
end Go.Abs
end
section
set_option linter.unusedVariables false
set_option linter.unusedSimpArgs false
namespace Go.Abs
theorem fapp_some {a b : Option (List Form)} {r : List Form} (h : fapp a b = some r) : ∃ x y, a = some x ∧ b = some y ∧ r = x ++ y := by
  cases a <;> cases b <;> simp [fapp] at h
  exact ⟨_, _, rfl, rfl, h.symm⟩
theorem rowF_mem {D : Nat → Option Form} : ∀ {k n : Nat} {r : List Form}, rowF D n k = some r → ∀ y ∈ r, ∃ i, n ≤ i ∧ i < n + k ∧ D i = some y
  | 0, n, r, h, y, hy => by rw [rowF] at h; cases h; cases hy
  | k + 1, n, r, h, y, hy => by
    rw [rowF] at h
    cases hd : D n with
    | none => simp [hd] at h
    | some z =>
      cases hr : rowF D (n + 1) k with
      | none => simp [hd, hr] at h
      | some ys =>
        simp [hd, hr] at h; subst h
        rcases List.mem_cons.1 hy with rfl | hy
        · exact ⟨n, Nat.le_refl _, by omega, hd⟩
        · obtain ⟨i, h1, h2, h3⟩ := rowF_mem hr y hy
          exact ⟨i, by omega, by omega, h3⟩
theorem cntR_lt {x : Form} {hs : List Hit} {N : Int} (hv : hvOk hs = true) (hne : ∃ h ∈ hs, deepB x h = true) (h : cntR x (-1) hs = some N) : 0 ≤ N ∧ N ≤ 400 ∧ ∀ h ∈ hs, deepB x h = true → h.many.length = N.toNat := by
  obtain ⟨h1, _⟩ := cntR_some h
  rcases h1 with ⟨_, h1⟩ | ⟨⟨y, hy, hyd⟩, h1⟩
  · obtain ⟨y, hy, hyd⟩ := hne; exact (h1 y hy hyd).elim
  · have e := h1 y hy hyd
    have h0 : y.depth ≠ 0 := by
      unfold deepB at hyd
      rw [Bool.and_eq_true, Bool.not_eq_true', decide_eq_false_iff_not] at hyd
      exact hyd.2
    have := ((isOk_hit ((hvOk_all hv).1 y hy)).2.2.2 h0).1
    exact ⟨by omega, by omega, fun z hz hzd => by have := h1 z hz hzd; omega⟩
theorem fls_ok_of {l : List (Form × Int)} {v : Nat} {hs : List Hit} {f : Form} (hF : FillS l v hs f) (ih : ∀ x ∈ f.kids, ∀ v' hs', FillS l v' hs' x → ∀ y, x.fl hs' = some y → FormF y) : ∀ (rest : List Form) (k : Nat) (r : List Form), f.kids.drop k = rest → Form.fls rest hs = some r → ∀ y ∈ r, FormF y
  | [], k, r, hd, h, y, hy => by rw [Form.fls] at h; cases h; cases hy
  | x :: xs, k, r, hd, h, y, hy => by
    obtain ⟨hx, hd2, hlt⟩ := drop_cons' hd
    have hm := List.mem_of_getElem? hx
    rw [Form.fls_eq] at h
    cases hdx : isDots x with
    | true => rw [hdx, cond_true] at h; exact fls_ok_of hF ih xs (k + 1) r hd2 h y hy
    | false =>
      rw [hdx, cond_false] at h
      obtain ⟨a, b, ha, hb, rfl⟩ := fapp_some h
      rcases List.mem_append.1 hy with hy | hy
      · cases hn : nextD xs with
        | false =>
          rw [hn, cond_false] at ha
          cases hf : x.fl hs with
          | none => rw [hf] at ha; cases ha
          | some z =>
            rw [hf] at ha; cases ha
            rw [List.mem_singleton] at hy; subst hy
            exact ih x hm v hs (hF.kid hx hdx (by rw [hd2]; exact hn)) _ hf
        | true =>
          rw [hn, cond_true] at ha
          obtain ⟨r1, r2⟩ := hF.row hx hdx (by rw [hd2]; exact hn)
          cases hc : cntR x (-1) hs with
          | none => rw [hc] at ha; cases ha
          | some N =>
            rw [hc] at ha
            obtain ⟨c0, c1, c2⟩ := cntR_lt hF.hv r1 hc
            obtain ⟨i, _, i2, i3⟩ := rowF_mem ha y hy
            exact ih x hm (v + 1) _ (r2 i (fun h hh hdp => by rw [c2 h hh hdp]; omega)) _ i3
      · exact fls_ok_of hF ih xs (k + 1) b hd2 hb y hy
theorem fl_ok_n (l : List (Form × Int)) : ∀ (n : Nat) (f : Form), f.w ≤ n → ∀ v hs, FillS l v hs f → ∀ y, f.fl hs = some y → FormF y := by
  intro n
  induction n with
  | zero => intro f h; have := f.w_kids; omega
  | succ n ih =>
    intro f hn v hs hF y hy
    have hw := f.w_kids
    rw [Form.fl_eq] at hy
    obtain ⟨d, hok⟩ := hF.ok
    by_cases h1 : f.kind = 1
    · rw [decide_eq_true h1, cond_true] at hy
      cases hy
      unfold findO
      rcases hF.leaf with hl | ⟨i, h, hl, hi, h0, hv⟩
      · rw [hl, decide_eq_false (by omega), cond_false]
        refine ⟨⟨d, hok⟩, ?_⟩
        rw [cnt_eq, (isOk_kids hok).1 (by omega), Form.cnts]; omega
      · rw [hl, decide_eq_true (by omega), cond_true, Int.toNat_natCast, List.getD_eq_getElem?_getD, hi, Option.getD_some]
        unfold Form.valid at hv
        rw [Bool.and_eq_true, decide_eq_true_eq] at hv
        exact ⟨⟨40, hv.1⟩, by omega⟩
    · rw [decide_eq_false h1, cond_false] at hy
      cases hf : Form.fls f.kids hs with
      | none => simp [hf] at hy
      | some ys =>
        rw [hf] at hy
        simp only at hy
        cases hc : decide (Form.cnts ys ≤ 400) with
        | false => rw [hc] at hy; cases hy
        | true =>
          rw [hc, cond_true] at hy
          cases hy
          have hall := fls_ok_of hF (fun x hx v' hs' hF' y hy => ih x (by have := Form.ws_mem hx; omega) v' hs' hF' y hy) f.kids 0 ys (by rw [List.drop_zero]) hf
          obtain ⟨D, hD⟩ := all_isOk (fun y hy => (hall y hy).ok)
          have hk3 : f.kind = 3 ∨ ys = [] := by
            by_cases h3 : f.kind = 3
            · exact .inl h3
            · rw [(isOk_kids hok).1 h3, Form.fls] at hf; cases hf; exact .inr rfl
          refine ⟨⟨D + 1, (isOk_node hok h1 hk3 hD).2.2⟩, ?_⟩
          have := of_decide_eq_true hc
          rw [Form.cnt]; omega
theorem fl_ok {l : List (Form × Int)} {v : Nat} {hs : List Hit} {f y : Form} (hF : FillS l v hs f) (h : f.fl hs = some y) : FormF y := fl_ok_n l _ f (Nat.le_refl _) v hs hF y h
theorem eachFill_n (h : Hit) : ∀ (n : Nat) (f : Form) (b : Bool), f.w ≤ n → Tr (fun m => m_impl_eachForm_fill_2 m f b h) (b || Form.part h.name f) := by
  intro n
  induction n with
  | zero => intro f b h; have := f.w_kids; omega
  | succ n ih =>
    intro f b hn
    have hw := f.w_kids
    rw [Form.part_eq]
    refine Tr.step (fun m => by rw [m_impl_eachForm_fill_2]) (Tr.bind (v := b || same f h.name) ?_ ?_)
    · refine Tr.eq (fun m => by unfold m_impl_fill_2; rfl) ?_
      cases b with
      | true => exact Tr.tt rfl Tr.val
      | false => exact Tr.ff rfl (Tr.bind (implFormSame_tr _ _) Tr.val)
    · have key := drop_ind f.kids (fun k zs => ∀ b : Bool, Tr (fun m => m_impl_eachForm_fill_2_l1 m f h (k : Int) b) (b || Form.parts h.name zs)) ?_ ?_ 0 (Nat.zero_le _) (b || same f h.name)
      · rw [← Bool.or_assoc]; simpa using key
      · intro b; exact Tr.step (fun m => by rw [m_impl_eachForm_fill_2_l1, ltN_self, cond_false, Form.parts, Bool.or_false]) Tr.val
      · intro k x zs hk hx hd ihk b
        have hm := Form.ws_mem (List.mem_of_getElem? hx)
        refine Tr.step (fun m => by rw [m_impl_eachForm_fill_2_l1, ltN hk, cond_true, idx_nat hx, Option.bind_some, succN]) (Tr.bind (ih x b (by omega)) ?_)
        rw [Form.parts, ← Bool.or_assoc]
        exact ihk _
theorem eachFill_tr (h : Hit) (f : Form) : Tr (fun m => m_impl_eachForm_fill_2 m f false h) (Form.part h.name f) := by
  have := eachFill_n h _ f false (Nat.le_refl _); rwa [Bool.false_or] at this
noncomputable def deepI (x : Form) : List Hit → Nat → List Int
  | [], _ => []
  | h :: hs, k => (bif deepB x h then [(k : Int)] else []) ++ deepI x hs (k + 1)
section
variable {f : Form} {hs : List Hit}
abbrev outF (f : Form) (acc : List Form) : Form := Form.mk f.kind (⟨#[]⟩ : ByteArray) f.n ([] : List Int) acc
def resI (f : Form) (acc : List Form) : Option (List Form) → Form × Bool
  | some ys => bif decide (Form.cnts (acc ++ ys) ≤ 400) then (outF f (acc ++ ys), true) else (form0, false)
  | none => (form0, false)
theorem resI_some {acc ys : List Form} : resI f acc (some ys) = bif decide (Form.cnts (acc ++ ys) ≤ 400) then (outF f (acc ++ ys), true) else (form0, false) := rfl
theorem resI_none {acc : List Form} {o : Option (List Form)} : resI f acc (fapp none o) = (form0, false) := by cases o <;> rfl
theorem resI_app {acc a : List Form} {o : Option (List Form)} : resI f acc (fapp (some a) o) = resI f (acc ++ a) o := by
  cases o with
  | none => rfl
  | some b => unfold resI fapp; simp only [List.append_assoc]
theorem resI_big {acc : List Form} {o : Option (List Form)} (h : 400 < Form.cnts acc) : resI f acc o = (form0, false) := by
  cases o with
  | none => rfl
  | some ys =>
    have h2 : ¬ Form.cnts (acc ++ ys) ≤ 400 := by rw [cnts_append]; omega
    rw [resI_some, decide_eq_false h2]; rfl
theorem put_tr {x : Form} {hs' : List Hit} (hb : Tr (fun m => m_impl_fill m x hs') (match x.fl hs' with
    | some y => (y, true)
    | none => (form0, false))) (hy : ∀ y, x.fl hs' = some y → FormF y) {acc : List Form} (ha : Form.cnts acc ≤ 400) :
    Tr (fun m => m_impl_fill_1 m x hs' (Form.cnts acc : Int) (outF f acc)) (match x.fl hs' with
      | some y => (decide (Form.cnts (acc ++ [y]) ≤ 400), (Form.cnts (acc ++ [y]) : Int), outF f (acc ++ [y]))
      | none => (false, (Form.cnts acc : Int), outF f acc)) := by
  have hl := cnts_len acc
  cases hx : x.fl hs' with
  | none =>
    rw [hx] at hb
    exact Tr.step (fun m => by rw [m_impl_fill_1]) (Tr.bind hb (Tr.eq (fun m => rfl) Tr.val))
  | some y =>
    rw [hx] at hb
    have hF := hy y hx
    have hyw := hF.w
    have hyc := hF.cnt
    have hcs : Form.cnts (acc ++ [y]) = Form.cnts acc + y.cnt := by rw [cnts_append, Form.cnts, Form.cnts, Nat.add_zero]
    refine Tr.step (fun m => by rw [m_impl_fill_1]) (Tr.bind hb ?_)
    dsimp only
    refine Tr.eq (fun m => by rw [Bool.not_true, cond_false]) (Tr.bind (FormSize_tr y (by omega)) (Tr.chk (decide_eq_true (show (acc.length + 1) * 80 ≤ 140737488355328 by omega)) ?_))
    refine Tr.eq (fun m => by rw [idx_last, Option.bind_some, w64_in (by omega), set_end]) ?_
    have e1 : (Form.cnts acc : Int) + (y.cnt : Int) = ((Form.cnts (acc ++ [y]) : Nat) : Int) := by rw [hcs]; simp
    rw [e1]
    have e2 : decide (((Form.cnts (acc ++ [y]) : Nat) : Int) ≤ 400) = decide (Form.cnts (acc ++ [y]) ≤ 400) := by
      rw [Bool.eq_iff_iff, decide_eq_true_iff, decide_eq_true_iff]; omega
    rw [e2]; exact Tr.val
theorem fill_l9_tr (g7 : Int) (x : Form) (g45 : Int) (n : Nat) (acc : List Form) (g54 : Int) {v : Form × Bool} (hlen : ∀ h ∈ hs, deepB x h = true → n < h.many.length)
    (hK : Tr (fun m => m_impl_fill_j8 m f hs g7 x g45 (deepI x hs 0) (n : Int) f.kind (⟨#[]⟩ : ByteArray) f.n ([] : List Int) acc g54 (nthR x n hs)) v) :
    Tr (fun m => m_impl_fill_l9 m f hs g7 x g45 (deepI x hs 0) (n : Int) f.kind (⟨#[]⟩ : ByteArray) f.n ([] : List Int) acc g54 0 hs) v := by
  have key : ∀ (zs pre : List Hit), hs = pre ++ zs → ∀ p : Nat, p + (deepI x zs pre.length).length = (deepI x hs 0).length → (deepI x hs 0).drop p = deepI x zs pre.length →
      Tr (fun m => m_impl_fill_l9 m f hs g7 x g45 (deepI x hs 0) (n : Int) f.kind (⟨#[]⟩ : ByteArray) f.n ([] : List Int) acc g54 (p : Int) (nthR x n pre ++ zs)) v := by
    intro zs
    induction zs with
    | nil =>
      intro pre he p hp hd
      rw [deepI, List.length_nil, Nat.add_zero] at hp
      rw [List.append_nil] at he
      subst he
      rw [List.append_nil]
      exact Tr.step (fun m => by rw [m_impl_fill_l9, hp, ltN_self, cond_false]) hK
    | cons h zs ih =>
      intro pre he p hp hd
      have hgo : hs = (pre ++ [h]) ++ zs := by rw [he]; simp
      have hnp : (nthR x n pre).length = pre.length := by unfold nthR; rw [List.length_map]
      rw [deepI] at hp hd
      cases hb : deepB x h with
      | false =>
        rw [hb, cond_false, List.nil_append] at hp hd
        have := ih (pre ++ [h]) hgo p (by simpa using hp) (by simpa using hd)
        have e : nthR x n (pre ++ [h]) ++ zs = nthR x n pre ++ h :: zs := by unfold nthR; simp [hb]
        rw [e] at this; exact this
      | true =>
        rw [hb, cond_true, List.singleton_append] at hp hd
        obtain ⟨q1, q2, q3⟩ := drop_cons' hd
        have hhs : hs[pre.length]? = some h := by rw [he]; simp
        have hm := List.mem_of_getElem? hhs
        have hn := hlen h hm hb
        have hmn : h.many[n]? = some (h.many.getD n hit0) := by rw [List.getD_eq_getElem?_getD, List.getElem?_eq_getElem hn]; rfl
        have hcur : (nthR x n pre ++ h :: zs)[pre.length]? = some h := by rw [List.getElem?_append_right (by omega), hnp, Nat.sub_self]; rfl
        refine Tr.step (fun m => by rw [m_impl_fill_l9, ltN q3, cond_true, idx_nat q1, Option.bind_some, idx_nat hhs, Option.bind_some, idx_nat hmn, Option.bind_some, idx_nat hcur, Option.bind_some, succN]) ?_
        have := ih (pre ++ [h]) hgo (p + 1) (by simp at hp ⊢; omega) (by simpa using q2)
        have e : nthR x n (pre ++ [h]) ++ zs = (nthR x n pre ++ h :: zs).set (pre.length : Int).toNat (h.many.getD n hit0) := by
          rw [Int.toNat_natCast, List.set_append_right _ _ (by omega), hnp, Nat.sub_self, List.set_cons_zero]
          unfold nthR; simp [hb]
        rw [e] at this; exact this
  have := key hs [] rfl 0 (by simp) (by simp)
  simpa [nthR] using this
theorem fill_l7_tr {l : List (Form × Int)} {vv : Nat} (k : Nat) (x : Form) (hk : k < 2 ^ 40) (N : Nat) (hN : N ≤ 400) (hsl : hs.length ≤ 20) (hlen : ∀ h ∈ hs, deepB x h = true → h.many.length = N)
    (hb : ∀ i, i < N → Tr (fun m => m_impl_fill m x (nthR x i hs)) (match x.fl (nthR x i hs) with
      | some y => (y, true)
      | none => (form0, false))) (hF : ∀ i, i < N → FillS l vv (nthR x i hs) x) {o : Option (List Form)}
    (hK : ∀ acc, Form.cnts acc ≤ 400 → Tr (fun m => m_impl_fill_l1 m f hs ((k + 1 : Nat) : Int) f.kind (⟨#[]⟩ : ByteArray) f.n ([] : List Int) acc (Form.cnts acc : Int)) (resI f acc o)) :
    ∀ (j n : Nat), n + j = N → ∀ acc, Form.cnts acc ≤ 400 → Tr (fun m => m_impl_fill_l7 m f hs (k : Int) x (N : Int) (deepI x hs 0) (n : Int) f.kind (⟨#[]⟩ : ByteArray) f.n ([] : List Int) acc (Form.cnts acc : Int)) (resI f acc (fapp (rowF (fun i => x.fl (nthR x i hs)) n j) o)) := by
  intro j
  induction j with
  | zero =>
    intro n hn acc ha
    have : n = N := by omega
    subst this
    rw [rowF, resI_app, List.append_nil]
    exact Tr.step (fun m => by rw [m_impl_fill_l7, ltN_self, cond_false, w64_in (by omega), succN]) (hK acc ha)
  | succ j ih =>
    intro n hn acc ha
    have hnN : n < N := by omega
    refine Tr.step (fun m => by rw [m_impl_fill_l7, ltN hnN, cond_true]) ?_
    refine Tr.bind (v := hs) (Tr.eq (fun m => by unfold m_slices_Clone_Hit; rfl) (Tr.chk (decide_eq_true (by simp; omega)) Tr.val)) ?_
    refine fill_l9_tr (k : Int) x (N : Int) n acc (Form.cnts acc : Int) (fun h hh hd => by rw [hlen h hh hd]; exact hnN) ?_
    refine Tr.step (fun m => by rw [m_impl_fill_j8]) (Tr.bind (put_tr (hb n hnN) (fun y hy => fl_ok (hF n hnN) hy) ha) ?_)
    cases hx : x.fl (nthR x n hs) with
    | none =>
      have e : rowF (fun i => x.fl (nthR x i hs)) n (j + 1) = none := by rw [rowF]; simp only [hx]
      rw [e, resI_none]; exact Tr.tt rfl Tr.val
    | some y =>
      have e : resI f acc (fapp (rowF (fun i => x.fl (nthR x i hs)) n (j + 1)) o) = resI f (acc ++ [y]) (fapp (rowF (fun i => x.fl (nthR x i hs)) (n + 1) j) o) := by
        rw [rowF]
        simp only [hx]
        cases rowF (fun i => x.fl (nthR x i hs)) (n + 1) j with
        | none => simp only [resI_none]
        | some ys => simp only [resI_app, List.append_assoc, List.singleton_append]
      rw [e]
      dsimp only
      by_cases hc : Form.cnts (acc ++ [y]) ≤ 400
      · rw [decide_eq_true hc]
        refine Tr.ff rfl (Tr.eq (fun m => by rw [w64_in (by omega), succN]; rfl) (ih (n + 1) (by omega) (acc ++ [y]) hc))
      · rw [decide_eq_false hc, resI_big (by omega)]
        exact Tr.tt rfl Tr.val
theorem fill_l4_tr (k : Nat) (x : Form) (acc : List Form) (hsl : hs.length ≤ 20) (hok : ∀ h ∈ hs, h.isOk = true) {v : Form × Bool} (R : Int → Form × Bool)
    (hK : ∀ N : Int, cntR x (-1) hs = some N → Tr (fun m => m_impl_fill_j3 m f hs (k : Int) f.kind (⟨#[]⟩ : ByteArray) f.n ([] : List Int) acc (Form.cnts acc : Int) x N (deepI x hs 0)) (R N)) :
    Tr (fun m => m_impl_fill_l4 m f hs (k : Int) f.kind (⟨#[]⟩ : ByteArray) f.n ([] : List Int) acc (Form.cnts acc : Int) x 0 ([] : List Int) (-1)) (match cntR x (-1) hs with
      | none => (form0, false)
      | some N => R N) := by
  have key := drop_ind hs (fun j zs => ∀ (ds : List Int) (n : Int), ds ++ deepI x zs j = deepI x hs 0 → cntR x n zs = cntR x (-1) hs → ds.length ≤ j → Tr (fun m => m_impl_fill_l4 m f hs (k : Int) f.kind (⟨#[]⟩ : ByteArray) f.n ([] : List Int) acc (Form.cnts acc : Int) x (j : Int) ds n) (match cntR x (-1) hs with
      | none => (form0, false)
      | some N => R N)) ?_ ?_ 0 (Nat.zero_le _) [] (-1) (by simp) (by simp) (Nat.le_refl _)
  · exact key
  · intro ds n h1 h2 _
    rw [deepI, List.append_nil] at h1
    rw [cntR] at h2
    have hk := hK n h2.symm
    rw [← h2, h1]
    exact Tr.step (fun m => by rw [m_impl_fill_l4, ltN_self, cond_false]) hk
  · intro j h zs hj hx hd ih ds n h1 h2 hl
    have hm := List.mem_of_getElem? hx
    refine Tr.step (fun m => by rw [m_impl_fill_l4, ltN hj, cond_true, idx_nat hx, Option.bind_some]) (Tr.bind (eachFill_tr h x) ?_)
    rw [deepI] at h1
    rw [cntR] at h2
    have e : Tr (fun m => m_impl_fill_j5 m f hs (k : Int) f.kind (⟨#[]⟩ : ByteArray) f.n ([] : List Int) acc (Form.cnts acc : Int) x (j : Int) ds n h (!deepB x h)) (match cntR x (-1) hs with
      | none => (form0, false)
      | some N => R N) := by
      cases hb : deepB x h with
      | false =>
        rw [hb, cond_false, List.nil_append] at h1
        rw [hb, cond_false] at h2
        exact Tr.step (fun m => by rw [m_impl_fill_j5, Bool.not_false, cond_true, succN]) (ih ds n h1 h2 (by omega))
      | true =>
        rw [hb, cond_true] at h1 h2
        refine Tr.step (fun m => by rw [m_impl_fill_j5, Bool.not_true, cond_false]) (Tr.chk (decide_eq_true (by simp; omega)) ?_)
        have j6 : ∀ b : Bool, (decide (0 ≤ n) && decide (n ≠ (h.many.length : Int))) = b → Tr (fun m => m_impl_fill_j6 m f hs (k : Int) f.kind (⟨#[]⟩ : ByteArray) f.n ([] : List Int) acc (Form.cnts acc : Int) x (j : Int) ds h b) (match cntR x (-1) hs with
          | none => (form0, false)
          | some N => R N) := by
          intro b hbb
          rw [hbb] at h2
          cases b with
          | true =>
            rw [cond_true] at h2
            rw [← h2]
            exact Tr.step (fun m => by rw [m_impl_fill_j6, cond_true]) Tr.val
          | false =>
            rw [cond_false] at h2
            exact Tr.step (fun m => by rw [m_impl_fill_j6, cond_false, succN]) (ih (ds ++ [(j : Int)]) _ (by rw [List.append_assoc]; exact h1) h2 (by simp; omega))
        by_cases hn : 0 ≤ n
        · exact Tr.tt (decide_eq_true hn) (j6 _ (by rw [decide_eq_true hn, Bool.true_and]))
        · exact Tr.ff (decide_eq_false hn) (j6 _ (by rw [decide_eq_false hn, Bool.false_and]))
    unfold deepB at e
    cases hp : Form.part h.name x with
    | false =>
      rw [hp, Bool.false_and, Bool.not_false] at e
      exact Tr.tt rfl e
    | true =>
      rw [hp, Bool.true_and, Bool.not_not] at e
      exact Tr.ff rfl e
theorem fill_l1_tr {l : List (Form × Int)} {v : Nat} (hF : FillS l v hs f) (hw : f.w ≤ 2 ^ 30) (ih : ∀ x ∈ f.kids, ∀ v' hs', FillS l v' hs' x → Tr (fun m => m_impl_fill m x hs') (match x.fl hs' with
      | some y => (y, true)
      | none => (form0, false))) : ∀ (rest : List Form) (k : Nat) (acc : List Form), f.kids.drop k = rest → k ≤ f.kids.length → Form.cnts acc ≤ 400 →
    Tr (fun m => m_impl_fill_l1 m f hs (k : Int) f.kind (⟨#[]⟩ : ByteArray) f.n ([] : List Int) acc (Form.cnts acc : Int)) (resI f acc (Form.fls rest hs))
  | [], k, acc, hd, hk, ha => by
    have : k = f.kids.length := by have := congrArg List.length hd; rw [List.length_drop] at this; simp at this; omega
    subst this
    rw [Form.fls, resI_some, List.append_nil, decide_eq_true ha, cond_true]
    exact Tr.step (fun m => by rw [m_impl_fill_l1, ltN_self, cond_false]) Tr.val
  | x :: xs, k, acc, hd, hk, ha => by
    obtain ⟨hx, hd2, hlt⟩ := drop_cons' hd
    have hm := List.mem_of_getElem? hx
    have hfw := f.w_kids
    have hkl := Form.ws_len f.kids
    refine Tr.step (fun m => by rw [m_impl_fill_l1, ltN hlt, cond_true, idx_nat hx, Option.bind_some]) (Tr.bind (named_tr x _) ?_)
    rw [Form.fls_eq]
    have hgo := fill_l1_tr hF hw ih xs (k + 1) 
    cases hdx : isDots x with
    | true =>
      rw [cond_true]
      exact Tr.tt hdx (Tr.eq (fun m => by rw [succN]) (hgo acc hd2 hlt ha))
    | false =>
      rw [cond_false]
      refine Tr.ff hdx ?_
      have one : nextD xs = false → Tr (fun m => m_impl_fill_j2 m f hs (k : Int) f.kind (⟨#[]⟩ : ByteArray) f.n ([] : List Int) acc (Form.cnts acc : Int) x true) (resI f acc (fapp (match x.fl hs with
          | none => none
          | some y => some [y]) (Form.fls xs hs))) := by
        intro hn
        have hFx := hF.kid hx hdx (by rw [hd2]; exact hn)
        refine Tr.step (fun m => by rw [m_impl_fill_j2, cond_true]) (Tr.bind (put_tr (ih x hm v hs hFx) (fun y hy => fl_ok hFx hy) ha) ?_)
        cases hxf : x.fl hs with
        | none => rw [resI_none]; exact Tr.tt rfl Tr.val
        | some y =>
          simp only
          rw [resI_app]
          by_cases hc : Form.cnts (acc ++ [y]) ≤ 400
          · rw [decide_eq_true hc]
            exact Tr.ff rfl (Tr.eq (fun m => by rw [succN]; rfl) (hgo (acc ++ [y]) hd2 hlt hc))
          · rw [decide_eq_false hc, resI_big (by omega)]
            exact Tr.tt rfl Tr.val
      rcases next_get hd with ⟨hz, hl⟩ | ⟨y, ys, hz, hy, hl⟩
      · subst hz
        rw [show nextD ([] : List Form) = false from rfl, cond_false]
        exact Tr.tt (decide_eq_true (by omega)) (one rfl)
      · refine Tr.ff (decide_eq_false (by omega)) (Tr.eq (fun m => by rw [succN, idx_nat hy, Option.bind_some]) (Tr.bind (named_tr y _) ?_))
        have hnx : nextD xs = isDots y := by rw [hz]; rfl
        cases hdy : isDots y with
        | false =>
          rw [hnx, hdy, cond_false]
          have := one (by rw [hnx, hdy])
          refine Tr.eq (fun m => ?_) this
          show m_impl_fill_j2 m f hs _ _ _ _ _ _ _ x (!isDots y) = _
          rw [hdy]; rfl
        | true =>
          rw [hnx, hdy, cond_true]
          obtain ⟨r1, r2⟩ := hF.row hx hdx (by rw [hd2, hnx, hdy])
          obtain ⟨hall, hsl⟩ := hvOk_all hF.hv
          refine Tr.eq (G := fun m => m_impl_fill_j2 m f hs (k : Int) f.kind (⟨#[]⟩ : ByteArray) f.n ([] : List Int) acc (Form.cnts acc : Int) x false) (fun m => ?_) ?_
          · show m_impl_fill_j2 m f hs _ _ _ _ _ _ _ x (!isDots y) = _
            rw [hdy]; rfl
          refine Tr.step (fun m => by rw [m_impl_fill_j2, cond_false]) ?_
          have h4 := fill_l4_tr (f := f) (hs := hs) k x acc hsl hall (v := (form0, false)) (fun N => resI f acc (fapp (rowF (fun i => x.fl (nthR x i hs)) 0 N.toNat) (Form.fls xs hs))) (fun N hN => by
            obtain ⟨c0, c1, c2⟩ := cntR_lt hF.hv r1 hN
            have hFi : ∀ i, i < N.toNat → FillS l (v + 1) (nthR x i hs) x := fun i hi => r2 i (fun h hh hdp => by rw [c2 h hh hdp]; exact hi)
            have := fill_l7_tr (f := f) (hs := hs) k x (by omega) N.toNat (by omega) hsl c2 (fun i hi => ih x hm (v + 1) _ (hFi i hi)) hFi (o := Form.fls xs hs) (fun acc' ha' => hgo acc' hd2 hlt ha') N.toNat 0 (by omega) acc ha
            rw [Int.toNat_of_nonneg c0] at this
            exact Tr.step (fun m => by rw [m_impl_fill_j3]; rfl) this)
          cases hc : cntR x (-1) hs with
          | none => rw [hc] at h4; rw [resI_none]; exact h4
          | some N => rw [hc] at h4; exact h4
end
theorem implFill_n (l : List (Form × Int)) : ∀ (n : Nat) (f : Form), f.w ≤ n → f.w ≤ 2 ^ 30 → ∀ v hs, FillS l v hs f → Tr (fun m => m_impl_fill m f hs) (match f.fl hs with
      | some y => (y, true)
      | none => (form0, false)) := by
  intro n
  induction n with
  | zero => intro f h; have := f.w_kids; omega
  | succ n ih =>
    intro f hn hw v hs hF
    have hfw := f.w_kids
    rw [Form.fl_eq]
    refine Tr.step (fun m => by rw [m_impl_fill]) ?_
    obtain ⟨d, hok⟩ := hF.ok
    by_cases h1 : f.kind = 1
    · rw [decide_eq_true h1, cond_true]
      refine Tr.tt rfl (Tr.bind (hitAt_tr hs f) ?_)
      unfold findO
      rcases hF.leaf with hl | ⟨i, h, hl, hi, h0, hv⟩
      · rw [hl]
        exact Tr.ff rfl (Tr.bind (copyForm_tr f (by omega)) Tr.val)
      · rw [hl, decide_eq_true (by omega), cond_true, Int.toNat_natCast, List.getD_eq_getElem?_getD, hi, Option.getD_some]
        have := valid_w hv
        exact Tr.tt rfl (Tr.eq (fun m => by rw [idx_nat hi, Option.bind_some]) (Tr.bind (copyForm_tr h.one (by omega)) Tr.val))
    · rw [decide_eq_false h1, cond_false]
      refine Tr.ff rfl ?_
      have := fill_l1_tr hF hw (fun x hx v' hs' hF' => ih x (by have := Form.ws_mem hx; omega) (by have := Form.ws_mem hx; omega) v' hs' hF') f.kids 0 [] (by rw [List.drop_zero]) (Nat.zero_le _) (by rw [Form.cnts]; omega)
      obtain ⟨e1, e2, _⟩ := isOk_node (ys := []) hok h1 (.inr rfl) (D := 0) (fun y hy => by cases hy)
      cases hf : Form.fls f.kids hs with
      | none => rw [hf] at this; exact this
      | some ys =>
        rw [hf] at this
        rw [resI_some, List.nil_append] at this
        simp only
        rw [e1, e2]
        cases hc : decide (Form.cnts ys ≤ 400) with
        | true => rw [hc, cond_true] at this; rw [cond_true]; exact this
        | false => rw [hc, cond_false] at this; rw [cond_false]; exact this
end Go.Abs
end
section
set_option linter.unusedVariables false
set_option linter.unusedSimpArgs false
namespace Go.Abs
theorem uses_n (nm : Form) (hnm : nm.kind = 1) : ∀ (n : Nat) (f : Form), f.w ≤ n → Tr (fun m => m_spec_l5Uses m f nm) (Form.part nm f) := by
  intro n
  induction n with
  | zero => intro f h; have := f.w_kids; omega
  | succ n ih =>
    intro f hn
    have hw := f.w_kids
    rw [Form.part_eq]
    have kids : Tr (fun m => m_spec_l5Uses_j1 m f nm) (Form.parts nm f.kids) := by
      refine Tr.step (fun m => by rw [m_spec_l5Uses_j1]) ?_
      have key := drop_ind f.kids (fun k zs => Tr (fun m => m_spec_l5Uses_l2 m f nm (k : Int)) (Form.parts nm zs)) ?_ ?_ 0 (Nat.zero_le _)
      · exact key
      · exact Tr.step (fun m => by rw [m_spec_l5Uses_l2, ltN_self, cond_false, Form.parts]) Tr.val
      · intro k x zs hk hx hd ihk
        have hm := Form.ws_mem (List.mem_of_getElem? hx)
        refine Tr.step (fun m => by rw [m_spec_l5Uses_l2, ltN hk, cond_true, idx_nat hx, Option.bind_some, succN]) (Tr.bind (ih x (by omega)) ?_)
        rw [Form.parts]
        cases Form.part nm x with
        | true => exact Tr.tt rfl Tr.val
        | false => exact Tr.ff rfl ihk
    refine Tr.step (fun m => by rw [m_spec_l5Uses]) ?_
    by_cases h1 : f.kind = 1
    · refine Tr.tt (decide_eq_true h1) (Tr.bind (specFormSame_tr f nm) ?_)
      cases same f nm with
      | true => exact Tr.tt rfl Tr.val
      | false => exact Tr.ff rfl kids
    · have hs : same f nm = false := same_ne (fun e => h1 (e ▸ hnm))
      rw [hs, Bool.false_or]
      exact Tr.ff (decide_eq_false h1) kids
theorem hit_kind {h : Hit} (hk : h.isOk = true) : h.name.kind = 1 := by
  have hn := (isOk_hit hk).1
  unfold isNm at hn
  rw [Bool.and_eq_true, decide_eq_true_eq] at hn
  exact hn.1
theorem deepB_pos {x : Form} {h : Hit} (hk : h.isOk = true) : deepB x h = (decide (0 < h.depth) && Form.part h.name x) := by
  have := (isOk_hit hk).2.1.1
  unfold deepB
  by_cases h0 : h.depth = 0
  · rw [decide_eq_true h0, decide_eq_false (by omega)]; simp
  · rw [decide_eq_false h0, decide_eq_true (by omega)]; simp
section
variable {hs : List Hit}
theorem count_tr (x : Form) (hok : ∀ h ∈ hs, h.isOk = true) : Tr (fun m => m_spec_l5Count m x hs) (match cntR x (-1) hs with
    | none => -1
    | some N => N) := by
  refine Tr.eq (fun m => by unfold m_spec_l5Count; rfl) ?_
  have key := drop_ind hs (fun j zs => ∀ n : Int, cntR x n zs = cntR x (-1) hs → Tr (fun m => m_spec_l5Count_l1 m x hs (j : Int) n) (match cntR x (-1) hs with
    | none => -1
    | some N => N)) ?_ ?_ 0 (Nat.zero_le _) (-1) (by rw [List.drop_zero])
  · exact key
  · intro n h2
    rw [cntR] at h2
    rw [← h2]
    exact Tr.step (fun m => by rw [m_spec_l5Count_l1, ltN_self, cond_false]) Tr.val
  · intro j h zs hj hx hd ih n h2
    have hm := List.mem_of_getElem? hx
    rw [cntR] at h2
    have j2 : Tr (fun m => m_spec_l5Count_j2 m x hs (j : Int) n (!deepB x h)) (match cntR x (-1) hs with
      | none => -1
      | some N => N) := by
      cases hb : deepB x h with
      | false =>
        rw [hb, cond_false] at h2
        exact Tr.step (fun m => by rw [m_spec_l5Count_j2, Bool.not_false, cond_true, succN]) (ih n h2)
      | true =>
        rw [hb, cond_true] at h2
        have j3 : (decide (0 ≤ n) && decide (n ≠ (h.many.length : Int))) = false → Tr (fun m => m_spec_l5Count_j3 m x hs (j : Int)) (match cntR x (-1) hs with
          | none => -1
          | some N => N) := fun hc => by
          rw [hc, cond_false] at h2
          exact Tr.step (fun m => by rw [m_spec_l5Count_j3, idx_nat hx, Option.bind_some, succN]) (ih _ h2)
        refine Tr.step (fun m => by rw [m_spec_l5Count_j2, Bool.not_true, cond_false]) ?_
        by_cases hn : 0 ≤ n
        · refine Tr.tt (decide_eq_true hn) (Tr.eq (fun m => by rw [idx_nat hx, Option.bind_some]) ?_)
          by_cases hne : n = (h.many.length : Int)
          · have hcc : decide (n ≠ (h.many.length : Int)) = false := decide_eq_false (fun hh => hh hne)
            exact Tr.ff hcc (j3 (by rw [hcc, Bool.and_false]))
          · rw [decide_eq_true hn, decide_eq_true (by exact hne), Bool.and_self, cond_true] at h2
            rw [← h2]
            exact Tr.tt (decide_eq_true (by exact hne)) Tr.val
        · exact Tr.ff (decide_eq_false hn) (j3 (by rw [decide_eq_false hn, Bool.false_and]))
    refine Tr.step (fun m => by rw [m_spec_l5Count_l1, ltN hj, cond_true, idx_nat hx, Option.bind_some]) ?_
    by_cases h0 : h.depth = 0
    · have : deepB x h = false := by unfold deepB; rw [decide_eq_true h0]; simp
      rw [this] at j2
      exact Tr.tt (decide_eq_true h0) j2
    · have : deepB x h = Form.part h.name x := by unfold deepB; rw [decide_eq_false h0]; simp
      rw [this] at j2
      exact Tr.ff (decide_eq_false h0) (Tr.eq (fun m => by rw [Option.bind_some]) (Tr.bind (uses_n h.name (hit_kind (hok h hm)) _ x (Nat.le_refl _)) j2))
theorem nth_tr (x : Form) (n : Nat) (hok : ∀ h ∈ hs, h.isOk = true) (hsl : hs.length ≤ 20) (hlen : ∀ h ∈ hs, deepB x h = true → n < h.many.length) : Tr (fun m => m_spec_l5Nth m x hs (n : Int)) (nthR x n hs) := by
  refine Tr.eq (fun m => by unfold m_spec_l5Nth; rfl) ?_
  have key := drop_ind hs (fun j zs => ∀ g : List Hit, g.length = j → g ++ nthR x n zs = nthR x n hs → Tr (fun m => m_spec_l5Nth_l1 m x hs (n : Int) g (j : Int)) (nthR x n hs)) ?_ ?_ 0 (Nat.zero_le _) [] rfl (by rw [List.drop_zero, List.nil_append])
  · exact key
  · intro g hg he
    have : nthR x n [] = [] := rfl
    rw [this, List.append_nil] at he
    rw [← he]
    exact Tr.step (fun m => by rw [m_spec_l5Nth_l1, ltN_self, cond_false]) Tr.val
  · intro j h zs hj hx hd ih g hg he
    have hm := List.mem_of_getElem? hx
    have he' : (g ++ [bif deepB x h then h.many.getD n hit0 else h]) ++ nthR x n zs = nthR x n hs := by rw [← he, List.append_assoc]; rfl
    have j2 : Tr (fun m => m_spec_l5Nth_j2 m x hs (n : Int) g (j : Int) h (deepB x h)) (nthR x n hs) := by
      cases hb : deepB x h with
      | true =>
        rw [hb, cond_true] at he'
        have hn := hlen h hm hb
        have hmn : h.many[n]? = some (h.many.getD n hit0) := by rw [List.getD_eq_getElem?_getD, List.getElem?_eq_getElem hn]; rfl
        refine Tr.step (fun m => by rw [m_spec_l5Nth_j2, cond_true, idx_nat hmn, Option.bind_some]) (Tr.chk (decide_eq_true (by simp; omega)) ?_)
        exact Tr.eq (fun m => by rw [succN]) (ih _ (by simp [hg]) he')
      | false =>
        rw [hb, cond_false] at he'
        refine Tr.step (fun m => by rw [m_spec_l5Nth_j2, cond_false]) (Tr.chk (decide_eq_true (by simp; omega)) ?_)
        exact Tr.eq (fun m => by rw [succN]) (ih _ (by simp [hg]) he')
    refine Tr.step (fun m => by rw [m_spec_l5Nth_l1, ltN hj, cond_true, idx_nat hx, Option.bind_some]) ?_
    rw [deepB_pos (hok h hm)] at j2
    cases h0 : decide (0 < h.depth) with
    | true =>
      rw [h0, Bool.true_and] at j2
      exact Tr.tt rfl (Tr.bind (uses_n h.name (hit_kind (hok h hm)) _ x (Nat.le_refl _)) j2)
    | false =>
      rw [h0, Bool.false_and] at j2
      exact Tr.ff rfl j2
end
section
variable {f : Form} {hs : List Hit}
def resS (f : Form) (acc : List Form) : Option (List Form) → Form × Bool
  | some ys => bif decide (Form.cnts (acc ++ ys) ≤ 400) then (Form.mk f.kind f.name f.n f.scopes (acc ++ ys), true) else (f, false)
  | none => (f, false)
theorem resS_some {acc ys : List Form} : resS f acc (some ys) = bif decide (Form.cnts (acc ++ ys) ≤ 400) then (Form.mk f.kind f.name f.n f.scopes (acc ++ ys), true) else (f, false) := rfl
theorem resS_none {acc : List Form} {o : Option (List Form)} : resS f acc (fapp none o) = (f, false) := by cases o <;> rfl
theorem resS_app {acc a : List Form} {o : Option (List Form)} : resS f acc (fapp (some a) o) = resS f (acc ++ a) o := by
  cases o with
  | none => rfl
  | some b => unfold resS fapp; simp only [List.append_assoc]
theorem resS_big {acc : List Form} {o : Option (List Form)} (h : 400 < Form.cnts acc) : resS f acc o = (f, false) := by
  cases o with
  | none => rfl
  | some ys =>
    have h2 : ¬ Form.cnts (acc ++ ys) ≤ 400 := by rw [cnts_append]; omega
    rw [resS_some, decide_eq_false h2]; rfl
theorem sfill_l5_tr {l : List (Form × Int)} {vv : Nat} (k : Nat) (x : Form) (hx : f.kids[k]? = some x) (hk : k < 2 ^ 40) (row : Bool) (D : Nat → List Hit) (N : Nat) (hN : N ≤ 400) (hw : x.w ≤ 2 ^ 30)
    (hD : ∀ i, i < N → bif row then Tr (fun m => m_spec_l5Nth m x hs (i : Int)) (D i) else D i = hs)
    (hb : ∀ i, i < N → Tr (fun m => m_spec_l5Fill m x (D i)) (match x.fl (D i) with
      | some y => (y, true)
      | none => (x, false))) (hF : ∀ i, i < N → FillS l vv (D i) x) {o : Option (List Form)}
    (hK : ∀ acc, Form.cnts acc ≤ 400 → Tr (fun m => m_spec_l5Fill_l2 m f hs ((k + 1 : Nat) : Int) (Form.cnts acc : Int) acc) (resS f acc o)) :
    ∀ (j n : Nat), n + j = N → ∀ acc, Form.cnts acc ≤ 400 → Tr (fun m => m_spec_l5Fill_l5 m f hs (k : Int) row (N : Int) (Form.cnts acc : Int) (n : Int) acc) (resS f acc (fapp (rowF (fun i => x.fl (D i)) n j) o)) := by
  intro j
  induction j with
  | zero =>
    intro n hn acc ha
    have : n = N := by omega
    subst this
    rw [rowF, resS_app, List.append_nil]
    exact Tr.step (fun m => by rw [m_spec_l5Fill_l5, ltN_self, cond_false, w64_in (by omega), succN]) (hK acc ha)
  | succ j ih =>
    intro n hn acc ha
    have hnN : n < N := by omega
    have hcl := cnts_len acc
    have j6 : Tr (fun m => m_spec_l5Fill_j6 m f hs (k : Int) row (N : Int) (Form.cnts acc : Int) (n : Int) acc (D n)) (resS f acc (fapp (rowF (fun i => x.fl (D i)) n (j + 1)) o)) := by
      have hbn := hb n hnN
      refine Tr.step (fun m => by rw [m_spec_l5Fill_j6, idx_nat hx, Option.bind_some]) (Tr.bind hbn ?_)
      cases hxf : x.fl (D n) with
      | none =>
        have e : rowF (fun i => x.fl (D i)) n (j + 1) = none := by rw [rowF]; simp only [hxf]
        rw [e, resS_none]
        dsimp only
        refine Tr.bind (l1Count_n _ x (Nat.le_refl _) (by omega)) ?_
        exact Tr.eq (fun m => by rw [Bool.not_false, cond_true]) (Tr.step (fun m => by rw [m_spec_l5Fill_j7, cond_true]) Tr.val)
      | some y =>
        have hFy := fl_ok (hF n hnN) hxf
        have hyw := hFy.w
        have hyc := hFy.cnt
        have e : resS f acc (fapp (rowF (fun i => x.fl (D i)) n (j + 1)) o) = resS f (acc ++ [y]) (fapp (rowF (fun i => x.fl (D i)) (n + 1) j) o) := by
          rw [rowF]
          simp only [hxf]
          cases rowF (fun i => x.fl (D i)) (n + 1) j with
          | none => simp only [resS_none]
          | some ys => simp only [resS_app, List.append_assoc, List.singleton_append]
        rw [e]
        dsimp only
        have hcs : Form.cnts (acc ++ [y]) = Form.cnts acc + y.cnt := by rw [cnts_append, Form.cnts, Form.cnts, Nat.add_zero]
        have e1 : (Form.cnts acc : Int) + (y.cnt : Int) = ((Form.cnts (acc ++ [y]) : Nat) : Int) := by rw [hcs]; simp
        refine Tr.bind (l1Count_n _ y (Nat.le_refl _) (by omega)) (Tr.eq (fun m => by rw [Bool.not_true, cond_false, w64_in (by omega), e1]) ?_)
        by_cases hc : Form.cnts (acc ++ [y]) ≤ 400
        · refine Tr.step (fun m => by rw [m_spec_l5Fill_j7, decide_eq_false (show ¬ (400 : Int) < ((Form.cnts (acc ++ [y]) : Nat) : Int) by omega), cond_false]) ?_
          refine Tr.chk (decide_eq_true (by simp; omega)) ?_
          exact Tr.eq (fun m => by rw [w64_in (by omega), w64_in (by omega), e1, succN]) (ih (n + 1) (by omega) (acc ++ [y]) hc)
        · rw [resS_big (by omega)]
          exact Tr.step (fun m => by rw [m_spec_l5Fill_j7, decide_eq_true (show (400 : Int) < ((Form.cnts (acc ++ [y]) : Nat) : Int) by omega), cond_true]) Tr.val
    have hDn := hD n hnN
    refine Tr.step (fun m => by rw [m_spec_l5Fill_l5, ltN hnN, cond_true]) ?_
    cases row with
    | true => exact Tr.tt rfl (Tr.eq (fun m => by rw [idx_nat hx, Option.bind_some]) (Tr.bind hDn j6))
    | false =>
      rw [cond_false] at hDn
      rw [hDn] at j6
      exact Tr.ff rfl j6
theorem sfill_l2_tr {l : List (Form × Int)} {v : Nat} (hF : FillS l v hs f) (hw : f.w ≤ 2 ^ 30) (ih : ∀ x ∈ f.kids, ∀ v' hs', FillS l v' hs' x → Tr (fun m => m_spec_l5Fill m x hs') (match x.fl hs' with
      | some y => (y, true)
      | none => (x, false))) : ∀ (rest : List Form) (k : Nat) (acc : List Form), f.kids.drop k = rest → k ≤ f.kids.length → Form.cnts acc ≤ 400 →
    Tr (fun m => m_spec_l5Fill_l2 m f hs (k : Int) (Form.cnts acc : Int) acc) (resS f acc (Form.fls rest hs))
  | [], k, acc, hd, hk, ha => by
    have : k = f.kids.length := by have := congrArg List.length hd; rw [List.length_drop] at this; simp at this; omega
    subst this
    rw [Form.fls, resS_some, List.append_nil, decide_eq_true ha, cond_true]
    exact Tr.step (fun m => by rw [m_spec_l5Fill_l2, ltN_self, cond_false, List.nil_append]) Tr.val
  | x :: xs, k, acc, hd, hk, ha => by
    obtain ⟨hx, hd2, hlt⟩ := drop_cons' hd
    have hm := List.mem_of_getElem? hx
    have hfw := f.w_kids
    have hxw := Form.ws_mem hm
    have hkl := Form.ws_len f.kids
    refine Tr.step (fun m => by rw [m_spec_l5Fill_l2, ltN hlt, cond_true, idx_nat hx, Option.bind_some]) (Tr.bind (l4Dots_tr x) ?_)
    rw [Form.fls_eq]
    have hgo := fun acc => sfill_l2_tr hF hw ih xs (k + 1) acc hd2 hlt
    cases hdx : isDots x with
    | true =>
      rw [cond_true]
      exact Tr.tt rfl (Tr.eq (fun m => by rw [succN]) (hgo acc ha))
    | false =>
      rw [cond_false]
      refine Tr.ff rfl ?_
      have one : nextD xs = false → Tr (fun m => m_spec_l5Fill_j3 m f hs (k : Int) (Form.cnts acc : Int) acc false) (resS f acc (fapp (match x.fl hs with
          | none => none
          | some y => some [y]) (Form.fls xs hs))) := by
        intro hn
        have hFx := hF.kid hx hdx (by rw [hd2]; exact hn)
        refine Tr.step (fun m => by rw [m_spec_l5Fill_j3, cond_false]) (Tr.step (fun m => by rw [m_spec_l5Fill_j4, decide_eq_false (by omega), cond_false]) ?_)
        have := sfill_l5_tr (f := f) (hs := hs) k x hx (by omega) false (fun _ => hs) 1 (by omega) (by omega) (fun i _ => rfl) (fun i _ => ih x hm v hs hFx) (fun i _ => hFx) (o := Form.fls xs hs) (fun acc' ha' => hgo acc' ha') 1 0 rfl acc ha
        have e : rowF (fun _ : Nat => x.fl hs) 0 1 = (match x.fl hs with
          | none => none
          | some y => some [y]) := by
          cases hxf : x.fl hs with
          | none => simp only [rowF, hxf]
          | some y => simp only [rowF, hxf]
        rw [e] at this
        exact this
      rcases next_get hd with ⟨hz, hl⟩ | ⟨y, ys, hz, hy, hl⟩
      · subst hz
        rw [show nextD ([] : List Form) = false from rfl, cond_false]
        exact Tr.ff (decide_eq_false (by omega)) (one rfl)
      · refine Tr.tt (decide_eq_true (by omega)) (Tr.eq (fun m => by rw [succN, idx_nat hy, Option.bind_some]) (Tr.bind (l4Dots_tr y) ?_))
        have hnx : nextD xs = isDots y := by rw [hz]; rfl
        cases hdy : isDots y with
        | false =>
          rw [hnx, hdy, cond_false]
          exact one (by rw [hnx, hdy])
        | true =>
          rw [hnx, hdy, cond_true]
          obtain ⟨r1, r2⟩ := hF.row hx hdx (by rw [hd2, hnx, hdy])
          obtain ⟨hall, hsl⟩ := hvOk_all hF.hv
          refine Tr.step (fun m => by rw [m_spec_l5Fill_j3, cond_true, idx_nat hx, Option.bind_some]) (Tr.bind (count_tr x hall) ?_)
          cases hc : cntR x (-1) hs with
          | none =>
            rw [resS_none]
            exact Tr.step (fun m => by rw [m_spec_l5Fill_j4]; rfl) Tr.val
          | some N =>
            obtain ⟨c0, c1, c2⟩ := cntR_lt hF.hv r1 hc
            have hFi : ∀ i, i < N.toNat → FillS l (v + 1) (nthR x i hs) x := fun i hi => r2 i (fun h hh hdp => by rw [c2 h hh hdp]; exact hi)
            refine Tr.step (fun m => by rw [m_spec_l5Fill_j4, decide_eq_false (show ¬ N < 0 by omega), cond_false]) ?_
            have := sfill_l5_tr (f := f) (hs := hs) k x hx (by omega) true (fun i => nthR x i hs) N.toNat (by omega) (by omega) (fun i hi => nth_tr x i hall hsl (fun h hh hdp => by rw [c2 h hh hdp]; exact hi)) (fun i hi => ih x hm (v + 1) _ (hFi i hi)) hFi (o := Form.fls xs hs) (fun acc' ha' => hgo acc' ha') N.toNat 0 (by omega) acc ha
            rw [Int.toNat_of_nonneg c0] at this
            exact this
end
theorem specFill_n (l : List (Form × Int)) : ∀ (n : Nat) (f : Form), f.w ≤ n → f.w ≤ 2 ^ 30 → ∀ v hs, FillS l v hs f → Tr (fun m => m_spec_l5Fill m f hs) (match f.fl hs with
      | some y => (y, true)
      | none => (f, false)) := by
  intro n
  induction n with
  | zero => intro f h; have := f.w_kids; omega
  | succ n ih =>
    intro f hn hw v hs hF
    have hfw := f.w_kids
    rw [Form.fl_eq]
    obtain ⟨d, hok⟩ := hF.ok
    have rest : Tr (fun m => m_spec_l5Fill_j1 m f hs (-1)) (match (match Form.fls f.kids hs with
        | none => none
        | some ys => bif decide (Form.cnts ys ≤ 400) then some (Form.mk f.kind f.name f.n f.scopes ys) else none) with
      | some y => (y, true)
      | none => (f, false)) := by
      refine Tr.step (fun m => by rw [m_spec_l5Fill_j1, decide_eq_false (by omega), cond_false]) ?_
      refine Tr.chk (decide_eq_true (by simp; omega)) ?_
      have := sfill_l2_tr hF hw (fun x hx v' hs' hF' => ih x (by have := Form.ws_mem hx; omega) (by have := Form.ws_mem hx; omega) v' hs' hF') f.kids 0 [] (by rw [List.drop_zero]) (Nat.zero_le _) (by rw [Form.cnts]; omega)
      cases hf : Form.fls f.kids hs with
      | none => rw [hf] at this; exact this
      | some ys =>
        rw [hf, resS_some, List.nil_append] at this
        simp only
        cases hc : decide (Form.cnts ys ≤ 400) with
        | true => rw [hc, cond_true] at this; rw [cond_true]; exact this
        | false => rw [hc, cond_false] at this; rw [cond_false]; exact this
    refine Tr.step (fun m => by rw [m_spec_l5Fill]) ?_
    by_cases h1 : f.kind = 1
    · rw [decide_eq_true h1, cond_true]
      refine Tr.tt rfl (Tr.bind (l4Find_tr hs f) ?_)
      unfold findO
      rcases hF.leaf with hl | ⟨i, h, hl, hi, h0, hv⟩
      · rw [hl, decide_eq_false (by omega), cond_false]
        have hk : f.kids = [] := (isOk_kids hok).1 (by omega)
        have e : Form.mk f.kind f.name f.n f.scopes [] = f := by
          obtain ⟨a, b, c, dd, ee⟩ := f
          replace hk : ee = [] := hk
          subst hk; rfl
        have e3 : decide (Form.cnts [] ≤ 400) = true := decide_eq_true (by rw [Form.cnts]; omega)
        have e2 : (match Form.fls f.kids hs with
          | none => none
          | some ys => bif decide (Form.cnts ys ≤ 400) then some (Form.mk f.kind f.name f.n f.scopes ys) else none) = some f := by
          rw [hk, Form.fls]
          simp only
          rw [e3, cond_true, e]
        rw [e2] at rest
        exact rest
      · rw [hl, decide_eq_true (by omega), cond_true, Int.toNat_natCast, List.getD_eq_getElem?_getD, hi, Option.getD_some]
        have := valid_w hv
        refine Tr.step (fun m => by rw [m_spec_l5Fill_j1, decide_eq_true (by omega), cond_true, idx_nat hi, Option.bind_some]) (Tr.bind (l1Copy_tr _ h.one (Nat.le_refl _) (by omega)) ?_)
        refine Tr.eq (fun m => by rw [Option.bind_some, h0]) ?_
        exact Tr.val
    · rw [decide_eq_false h1, cond_false]
      exact Tr.ff rfl rest
end Go.Abs
end
section
set_option linter.unusedVariables false
set_option linter.unusedSimpArgs false
namespace Go.Abs
noncomputable def fillV (o : Option Form) : Form × Bool := match o with
  | some y => bif y.valid then (y, true) else (form0, false)
  | none => (form0, false)
noncomputable def fillT (t : Form) (hs : List Hit) : Form × Bool := bif hvOk hs && tmplOk t (nd hs) then fillV (t.fl hs) else (form0, false)
theorem tmplOk_parts {t : Form} {l : List (Form × Int)} (h : tmplOk t l = true) : t.valid = true ∧ isDots t = false ∧ t.dotsOk false = true ∧ t.rws l 0 = true := by
  unfold tmplOk at h
  simp only [Bool.and_eq_true, Bool.not_eq_true'] at h
  exact ⟨h.1, h.2.1, h.2.2.1, h.2.2.2⟩
theorem fillS_of {t : Form} {hs : List Hit} (hv : hvOk hs = true) (ht : tmplOk t (nd hs) = true) : FillS (nd hs) 0 hs t := by
  obtain ⟨h1, h2, h3, h4⟩ := tmplOk_parts ht
  unfold Form.valid at h1
  rw [Bool.and_eq_true] at h1
  exact ⟨hv, h4, ⟨40, h1.1⟩, fun g _ _ => by simp⟩
theorem implFillTemplate_tr (t : Form) (hs : List Hit) (hf : t.fit) (hb : t.w ≤ 2 ^ 36) (hl : Hit.fits hs) (hlb : Hit.ws hs ≤ 2 ^ 36) (hfo : ∀ y, t.fl hs = some y → y.fit) : Tr (fun m => m_impl_FillTemplate m t hs) (fillT t hs) := by
  refine Tr.eq (fun m => by unfold m_impl_FillTemplate; rfl) (Tr.bind (implTemplateValid_tr t hs hf hb hl hlb) ?_)
  unfold fillT
  cases hg : (hvOk hs && tmplOk t (nd hs)) with
  | false => exact Tr.tt rfl Tr.val
  | true =>
  rw [Bool.and_eq_true] at hg
  have hS := fillS_of hg.1 hg.2
  have hw := valid_w (tmplOk_parts hg.2).1
  refine Tr.ff rfl (Tr.bind (implFill_n (nd hs) _ t (Nat.le_refl _) (by omega) 0 hs hS) ?_)
  rw [cond_true]
  unfold fillV
  cases hfl : t.fl hs with
  | none => exact Tr.tt rfl Tr.val
  | some y =>
    have hyw := (fl_ok hS hfl).w
    dsimp only
    refine Tr.eq (fun m => by rw [Bool.not_true, cond_false]) (Tr.bind (v := bif y.valid then (y, true) else (form0, false)) ?_ ?_)
    · refine Tr.eq (fun m => by unfold m_impl_formOr; rfl) (Tr.bind (implFormValid_tr y (hfo y hfl)) ?_)
      cases y.valid with
      | false => exact Tr.tt rfl Tr.val
      | true => exact Tr.ff rfl (Tr.bind (copyForm_tr y (by omega)) Tr.val)
    · cases y.valid <;> exact Tr.val
theorem specFillTemplate_tr (t : Form) (hs : List Hit) (hf : t.fit) (hb : t.w ≤ 2 ^ 36) (hl : Hit.fits hs) (hlb : Hit.ws hs ≤ 2 ^ 36) (hfo : ∀ y, t.fl hs = some y → y.fit) : Tr (fun m => m_spec_FillTemplate m t hs) (fillT t hs) := by
  refine Tr.eq (fun m => by unfold m_spec_FillTemplate; rfl) (Tr.bind (ownForm_tr t hb) (Tr.bind (specTemplateValid_tr t hs hf hb hl hlb) ?_))
  unfold fillT
  cases hg : (hvOk hs && tmplOk t (nd hs)) with
  | false => exact Tr.tt rfl Tr.val
  | true =>
  rw [Bool.and_eq_true] at hg
  have hS := fillS_of hg.1 hg.2
  have hw := valid_w (tmplOk_parts hg.2).1
  refine Tr.ff rfl (Tr.bind (specFill_n (nd hs) _ t (Nat.le_refl _) (by omega) 0 hs hS) ?_)
  rw [cond_true]
  unfold fillV
  cases hfl : t.fl hs with
  | none => exact Tr.tt rfl Tr.val
  | some y =>
    have hyw := (fl_ok hS hfl).w
    dsimp only
    refine Tr.eq (fun m => by rw [Bool.not_true, cond_false]) (Tr.bind (specFormValid_tr y (hfo y hfl) (by omega)) ?_)
    cases y.valid with
    | false => exact Tr.eq (fun m => by rw [Bool.not_false, cond_true]; rfl) Tr.val
    | true => exact Tr.eq (fun m => by rw [Bool.not_true, cond_false]; rfl) Tr.val
theorem rowF_all {P : Form → Prop} {D : Nat → Option Form} (hD : ∀ i y, D i = some y → P y) : ∀ {k n : Nat} {r : List Form}, rowF D n k = some r → ∀ y ∈ r, P y := fun h y hy => by
  obtain ⟨i, _, _, hi⟩ := rowF_mem h y hy
  exact hD i y hi
theorem nthR_fit {x : Form} {n : Nat} : ∀ {hs : List Hit}, Hit.fits hs → Hit.fits (nthR x n hs)
  | [], h => h
  | h :: hs, hf => by
    rw [Hit.fits] at hf
    show Hit.fits ((bif deepB x h then h.many.getD n hit0 else h) :: nthR x n hs)
    rw [Hit.fits]
    refine ⟨?_, nthR_fit hf.2⟩
    cases deepB x h with
    | false => exact hf.1
    | true =>
      rw [cond_true]
      by_cases hn : n < h.many.length
      · have hm := many_mem hn
        have := hf.1
        obtain ⟨a, b, c, d⟩ := h
        rw [Hit.fit] at this
        exact Hit.fits_mem this.2.2.2 hm
      · rw [List.getD_eq_getElem?_getD, List.getElem?_eq_none (by omega)]; exact hit0_fit
theorem hit_one_fit {h : Hit} (hf : h.fit) : h.one.fit := by
  obtain ⟨a, b, c, d⟩ := h
  rw [Hit.fit] at hf
  exact hf.2.1
theorem fl_fit_n : ∀ (n : Nat) (f : Form), f.w ≤ n → f.fit → ∀ hs, Hit.fits hs → ∀ y, f.fl hs = some y → y.fit := by
  intro n
  induction n with
  | zero => intro f h; have := f.w_kids; omega
  | succ n ih =>
    intro f hn hf hs hl y hy
    have hw := f.w_kids
    rw [Form.fl_eq] at hy
    by_cases h1 : f.kind = 1
    · rw [decide_eq_true h1, cond_true] at hy
      cases hy
      unfold findO
      cases hd : decide (0 ≤ hAt hs f) with
      | false => exact hf
      | true =>
        rw [cond_true]
        rcases fnd_at (D := fun y : Hit => same y.name f) (l := hs) (k := 0) with ⟨h2, _⟩ | ⟨i, h, h2, h3, _, _⟩
        · have := of_decide_eq_true hd
          unfold hAt at this; omega
        · unfold hAt
          rw [h2, Nat.zero_add, Int.toNat_natCast, List.getD_eq_getElem?_getD, h3, Option.getD_some]
          exact hit_one_fit (Hit.fits_mem hl (List.mem_of_getElem? h3))
    · rw [decide_eq_false h1, cond_false] at hy
      cases hfs : Form.fls f.kids hs with
      | none => simp [hfs] at hy
      | some ys =>
        rw [hfs] at hy
        simp only at hy
        cases hc : decide (Form.cnts ys ≤ 400) with
        | false => rw [hc] at hy; cases hy
        | true =>
          rw [hc, cond_true] at hy
          cases hy
          have key : ∀ (zs : List Form), (∀ x ∈ zs, x ∈ f.kids) → ∀ r, Form.fls zs hs = some r → ∀ y ∈ r, y.fit := by
            intro zs
            induction zs with
            | nil => intro _ r hr y hy; rw [Form.fls] at hr; cases hr; cases hy
            | cons x xs ihz =>
              intro hm r hr y hy
              have hxm := hm x (by simp)
              have hxw := Form.ws_mem hxm
              have hxf := Form.fits_mem hf.parts.2.2.2 hxm
              rw [Form.fls_eq] at hr
              cases hdx : isDots x with
              | true => rw [hdx, cond_true] at hr; exact ihz (fun z hz => hm z (by simp [hz])) r hr y hy
              | false =>
                rw [hdx, cond_false] at hr
                obtain ⟨a, b, ha, hb, rfl⟩ := fapp_some hr
                rcases List.mem_append.1 hy with hy | hy
                · cases hnx : nextD xs with
                  | false =>
                    rw [hnx, cond_false] at ha
                    cases hxfl : x.fl hs with
                    | none => rw [hxfl] at ha; cases ha
                    | some z =>
                      rw [hxfl] at ha; cases ha
                      rw [List.mem_singleton] at hy; subst hy
                      exact ih x (by omega) hxf hs hl _ hxfl
                  | true =>
                    rw [hnx, cond_true] at ha
                    cases hcn : cntR x (-1) hs with
                    | none => rw [hcn] at ha; cases ha
                    | some N =>
                      rw [hcn] at ha
                      exact rowF_all (fun i y hiy => ih x (by omega) hxf _ (nthR_fit hl) y hiy) ha y hy
                · exact ihz (fun z hz => hm z (by simp [hz])) b hb y hy
          have hcl := cnts_len ys
          have hc := of_decide_eq_true hc
          have hp := hf.parts
          rw [Form.fit]
          exact ⟨hp.1, hp.2.1, by omega, Form.fits_of_mem (key f.kids (fun x hx => hx) ys hfs)⟩
theorem fl_fit {f y : Form} {hs : List Hit} (hf : f.fit) (hl : Hit.fits hs) (h : f.fl hs = some y) : y.fit := fl_fit_n _ f (Nat.le_refl _) hf hs hl y h
theorem fillT_cases (t : Form) (hs : List Hit) : fillT t hs = (form0, false) ∨ ∃ y, hvOk hs = true ∧ tmplOk t (nd hs) = true ∧ t.fl hs = some y ∧ y.valid = true ∧ fillT t hs = (y, true) := by
  unfold fillT
  cases hg : (hvOk hs && tmplOk t (nd hs)) with
  | false => exact .inl rfl
  | true =>
    rw [Bool.and_eq_true] at hg
    unfold fillV
    cases hfl : t.fl hs with
    | none => exact .inl rfl
    | some y =>
      rw [cond_true]
      simp only
      cases hv : y.valid with
      | false => exact .inl rfl
      | true => exact .inr ⟨y, hg.1, hg.2, rfl, hv, rfl⟩
theorem kD_prev : ∀ {zs : List Form} {pd sn : Bool} {i : Nat} {x : Form}, Form.kD false pd sn zs = true → zs[i]? = some x → isDots x = true → (i = 0 ∧ pd = false) ∨ ∃ j y, i = j + 1 ∧ zs[j]? = some y ∧ isDots y = false
  | z :: zs, pd, sn, 0, x, h, hx, hd => by
    simp at hx; subst hx
    rw [Form.kD, hd, cond_true, Bool.and_eq_true, Bool.and_eq_true, Bool.not_eq_true'] at h
    exact .inl ⟨rfl, h.1.1⟩
  | z :: zs, pd, sn, i + 1, x, h, hx, hd => by
    rw [Form.kD, Bool.and_eq_true] at h
    rcases kD_prev (zs := zs) (i := i) h.2 (by simpa using hx) hd with ⟨rfl, h2⟩ | ⟨j, y, rfl, hy, hyd⟩
    · exact .inr ⟨0, z, rfl, rfl, h2⟩
    · exact .inr ⟨j + 1, y, rfl, by simpa using hy, hyd⟩
theorem FillS.plain {l : List (Form × Int)} {v : Nat} {hs : List Hit} {f : Form} (hF : FillS l v hs f) (hd : f.dotsOk false = true) (hno : ∀ h ∈ hs, Form.part h.name f = false) : ∀ x ∈ f.kids, isDots x = false := by
  intro x hx
  rw [Bool.eq_false_iff]
  intro hdx
  obtain ⟨i, hi⟩ := List.getElem?_of_mem hx
  rw [Form.dotsOk_eq] at hd
  rcases kD_prev hd hi hdx with ⟨_, h⟩ | ⟨j, y, rfl, hy, hyd⟩
  · cases h
  · have hnx : nextD (f.kids.drop (j + 1)) = true := by
      rw [drop_get hi]; exact hdx
    obtain ⟨⟨h, hm, hdp⟩, _⟩ := hF.row hy hyd hnx
    unfold deepB at hdp
    rw [Bool.and_eq_true] at hdp
    have := part_kid (List.mem_of_getElem? hy) hdp.1
    rw [hno h hm] at this; cases this
end Go.Abs
end
section
set_option linter.unusedVariables false
set_option linter.unusedSimpArgs false
set_option maxHeartbeats 4000000
namespace Go.Abs
section
variable {α : Type}
theorem mk_lt_mid (d : List α) (x : α) (xs : List α) : decide ((d.length : Int) < ((d ++ x :: xs).length : Int)) = true := by simp; omega
theorem mk_lt_end (d : List α) : decide ((d.length : Int) < ((d ++ []).length : Int)) = false := by simp
theorem mk_idx_mid (d : List α) (x : α) (xs : List α) : idx (d ++ x :: xs) (d.length : Int) = some x := idx_nat (by simp)
theorem mk_set_mid (d : List α) (x y : α) (xs : List α) : (d ++ x :: xs).set ((d.length : Int)).toNat y = d ++ y :: xs := by simp
theorem mk_mid_app (d : List α) (y : α) (xs : List α) : d ++ y :: xs = (d ++ [y]) ++ xs := by simp
theorem mk_mid_len (d : List α) (y : α) : (d.length : Int) + 1 = ((d ++ [y]).length : Int) := by simp
theorem mk_mid_lenw (d : List α) (y : α) (h : d.length ≤ 4611686018427387904) : w64 ((d.length : Int) + 1) = ((d ++ [y]).length : Int) := by
  rw [w64_in (by omega)]; simp
end
theorem mk_wIn {k : Int} (h0 : 0 ≤ k) (h1 : k ≤ 4611686018427387904) : w64 (k + 1) = k + 1 := w64_in (by omega)
theorem mk_ne_self_f {α : Type} [DecidableEq α] (x : α) : decide (x ≠ x) = false := by simp
theorem mk_not_neg {k : Int} (h : 0 ≤ k) : decide (k < 0) = false := by simpa using h
theorem markText_loop : ∀ (n : Nat) (k : Nat) (s : ByteArray), k < 2 ^ n → s.size + n ≤ 1000 → n ≤ 63 → ∃ t, Tr (fun m => m_laws_markText_l1 m (k : Int) s) t := by
  intro n
  induction n with
  | zero =>
    intro k s hk hs hn
    have : k = 0 := by omega
    subst this
    refine ⟨(⟨#[109]⟩ : ByteArray) ++ s, Tr.step (fun m => by rw [m_laws_markText_l1, show decide ((0 : Int) < ((0 : Nat) : Int)) = false from rfl, cond_false]) (Tr.of fun m => ?_)⟩
    · rw [bcat, decide_eq_true (by have : (⟨#[109]⟩ : ByteArray).size = 1 := rfl; omega)]; rfl
  | succ n ih =>
    intro k s hk hs hn
    by_cases h0 : k = 0
    · subst h0
      refine ⟨(⟨#[109]⟩ : ByteArray) ++ s, Tr.step (fun m => by rw [m_laws_markText_l1, show decide ((0 : Int) < ((0 : Nat) : Int)) = false from rfl, cond_false]) (Tr.of fun m => ?_)⟩
      · rw [bcat, decide_eq_true (by have : (⟨#[109]⟩ : ByteArray).size = 1 := rfl; omega)]; rfl
    · have hk2 : k / 10 < 2 ^ n := by rw [Nat.pow_succ] at hk; omega
      have hp : (2 : Nat) ^ (n + 1) ≤ 2 ^ 63 := Nat.pow_le_pow_right (by omega) (by omega)
      have hsz : (strOf [(w8 (w64 (48 + ((k : Int).tmod 10))))]).size = 1 := rfl
      have hsz2 : (strOf [(w8 (w64 (48 + ((k : Int).tmod 10))))] ++ s).size = 1 + s.size := by rw [ByteArray.size_append, hsz]
      obtain ⟨t, ht⟩ := ih (k / 10) (strOf [(w8 (w64 (48 + ((k : Int).tmod 10))))] ++ s) hk2 (by rw [hsz2]; omega) (by omega)
      refine ⟨t, Tr.step (fun m => by rw [m_laws_markText_l1, decide_eq_true (show (0 : Int) < (k : Int) by omega), cond_true, bcat, decide_eq_true (by rw [hsz]; omega), cond_true, Option.bind_some]) ?_⟩
      refine Tr.eq (fun m => ?_) ht
      have : w64 ((k : Int).tdiv 10) = ((k / 10 : Nat) : Int) := by
        rw [show ((k : Int).tdiv 10) = ((k / 10 : Nat) : Int) from rfl, w64_in (by omega)]
      rw [this]
theorem markText_tr {k : Int} (h0 : 0 ≤ k) (h1 : k ≤ 4611686018427387905) : ∃ t, Tr (fun m => m_laws_markText m k) t := by
  by_cases hk : k ≤ 0
  · exact ⟨_, Tr.of fun m => by rw [m_laws_markText, decide_eq_true hk]; rfl⟩
  · obtain ⟨n, rfl⟩ := Int.eq_ofNat_of_zero_le h0
    obtain ⟨t, ht⟩ := markText_loop 63 n ⟨#[]⟩ (by omega) (by decide) (Nat.le_refl _)
    exact ⟨t, Tr.eq (fun m => by rw [m_laws_markText, decide_eq_false hk, cond_false]) ht⟩
def MH {α : Type} (M : Nat → List α → Int → Option (Int × List α)) (H : Nat → List α → Int → Option Int) (l : List α) (b : Nat) : Prop :=
  ∀ k : Int, 0 ≤ k → k + b ≤ 4611686018427387904 → ∃ v ys, Tr (fun m => M m l k) (v, ys) ∧ k ≤ v ∧ v ≤ k + b ∧ Tr (fun m => H m ys k) v
theorem markInt_loop : ∀ (xs d : List Int) (k : Int), 0 ≤ k → k + xs.length ≤ 4611686018427387904 → ∃ v ys, Tr (fun m => m_laws_markIntS_l1 m k (d.length : Int) (d ++ xs)) (v, d ++ ys) ∧ k ≤ v ∧ v ≤ k + xs.length ∧ ∀ d' : List Int, Tr (fun m => m_laws_heldIntS_l1 m (d' ++ ys) k (d'.length : Int)) v
  | [], d, k, h0, h1 => ⟨k, [], Tr.step (fun m => by rw [m_laws_markIntS_l1, mk_lt_end, cond_false]) Tr.val, Int.le_refl _, by omega, fun d' => Tr.step (fun m => by rw [m_laws_heldIntS_l1, mk_lt_end, cond_false]) Tr.val⟩
  | x :: xs, d, k, h0, h1 => by
    rw [List.length_cons] at h1
    obtain ⟨v, ys, a1, a2, a3, a4⟩ := markInt_loop xs (d ++ [k]) (k + 1) (by omega) (by omega)
    refine ⟨v, k :: ys, ?_, by omega, by rw [List.length_cons]; omega, fun d' => ?_⟩
    · refine Tr.step (fun m => by rw [m_laws_markIntS_l1, mk_lt_mid, cond_true, mk_idx_mid, Option.bind_some, mk_set_mid]) ?_
      refine Tr.eq (fun m => ?_) (mk_mid_app d k ys ▸ a1)
      rw [mk_wIn h0 (by omega), mk_mid_len d k, mk_mid_app d k xs]
    · refine Tr.step (fun m => by rw [m_laws_heldIntS_l1, mk_lt_mid, cond_true, mk_idx_mid, Option.bind_some, mk_ne_self_f, cond_false]) ?_
      refine Tr.eq (fun m => ?_) (a4 (d' ++ [k]))
      rw [mk_wIn h0 (by omega), mk_mid_len d' k, mk_mid_app d' k ys]
theorem mhInt (l : List Int) : MH m_laws_markIntS m_laws_heldIntS l l.length := fun k h0 h1 => by
  obtain ⟨v, ys, a1, a2, a3, a4⟩ := markInt_loop l [] k h0 h1
  exact ⟨v, ys, Tr.eq (fun m => by unfold m_laws_markIntS; rfl) a1, a2, a3, Tr.eq (fun m => by unfold m_laws_heldIntS; rfl) (a4 [])⟩
theorem markForm_loop : ∀ (xs d : List Form) (k : Int), (∀ x ∈ xs, MH m_laws_markFormS m_laws_heldFormS x.kids (3 * Form.ws x.kids)) → d.length + xs.length ≤ 4611686018427387904 → 0 ≤ k → k + (3 * Form.ws xs : Nat) ≤ 4611686018427387904 →
    ∃ v ys, Tr (fun m => m_laws_markFormS_l1 m k (d.length : Int) (d ++ xs)) (v, d ++ ys) ∧ k ≤ v ∧ v ≤ k + (3 * Form.ws xs : Nat) ∧ ∀ d' : List Form, Tr (fun m => m_laws_heldFormS_l1 m (d' ++ ys) k (d'.length : Int)) v
  | [], d, k, ih, hl, h0, h1 => ⟨k, [], Tr.step (fun m => by rw [m_laws_markFormS_l1, mk_lt_end, cond_false]) Tr.val, Int.le_refl _, by omega, fun d' => Tr.step (fun m => by rw [m_laws_heldFormS_l1, mk_lt_end, cond_false]) Tr.val⟩
  | .mk kd nm nn sc ks :: xs, d, k, ih, hl, h0, h1 => by
    rw [Form.ws, Form.w] at h1
    rw [List.length_cons] at hl
    obtain ⟨t, ht⟩ := markText_tr (k := k + 1) (by omega) (by omega)
    obtain ⟨v1, a, b1, b2, b3, b4⟩ := mhInt sc (k + 1 + 1 + 1) (by omega) (by omega)
    obtain ⟨v2, b, c1, c2, c3, c4⟩ := ih _ (List.mem_cons_self ..) v1 (by omega) (by show v1 + (3 * Form.ws ks : Nat) ≤ _; omega)
    have c3' : v2 ≤ v1 + (3 * Form.ws ks : Nat) := c3
    obtain ⟨v, ys, a1, a2, a3, a4⟩ := markForm_loop xs (d ++ [.mk k t (k + 1 + 1) a b]) v2 (fun x hx => ih x (List.mem_cons_of_mem _ hx)) (by simp; omega) (by omega) (by omega)
    have e1 := mk_wIn h0 (by omega)
    have e2 := mk_wIn (k := k + 1) (by omega) (by omega)
    have e3 := mk_wIn (k := k + 1 + 1) (by omega) (by omega)
    refine ⟨v, .mk k t (k + 1 + 1) a b :: ys, ?_, by omega, by rw [Form.ws, Form.w]; omega, fun d' => ?_⟩
    · refine Tr.step (fun m => by rewrite [m_laws_markFormS_l1]; simp only [Form.kind, Form.name, Form.n, Form.scopes, Form.kids, mk_lt_mid, cond_true, mk_idx_mid, Option.bind_some, mk_set_mid, e1, e2, e3]; rfl) ?_
      refine Tr.bind ht ?_
      refine Tr.bind b1 ?_
      refine Tr.bind c1 ?_
      refine Tr.eq (fun m => ?_) (mk_mid_app d (.mk k t (k + 1 + 1) a b) ys ▸ a1)
      rw [← mk_mid_app, ← mk_mid_lenw _ _ (by omega)]
    · refine Tr.step (fun m => by rewrite [m_laws_heldFormS_l1]; simp only [Form.kind, Form.name, Form.n, Form.scopes, Form.kids, mk_lt_mid, cond_true, mk_idx_mid, Option.bind_some, e1, e2, e3]; rfl) ?_
      refine Tr.ff (mk_ne_self_f k) ?_
      refine Tr.bind ht (Tr.ff (mk_ne_self_f t) (Tr.ff (mk_ne_self_f (k + 1 + 1)) ?_))
      refine Tr.bind b4 (Tr.ff (mk_not_neg (by omega)) ?_)
      refine Tr.bind c4 (Tr.ff (mk_not_neg (by omega)) ?_)
      refine Tr.eq (fun m => ?_) (a4 (d' ++ [.mk k t (k + 1 + 1) a b]))
      rw [← mk_mid_app, ← mk_mid_len]
theorem mhForm_n : ∀ (n : Nat) (l : List Form), Form.ws l ≤ n → MH m_laws_markFormS m_laws_heldFormS l (3 * Form.ws l) := by
  intro n
  induction n with
  | zero =>
    intro l hl k h0 h1
    have hx := Form.ws_len l
    have : l = [] := List.eq_nil_of_length_eq_zero (by omega)
    subst this
    obtain ⟨v, ys, a1, a2, a3, a4⟩ := markForm_loop [] [] k (fun x hx => by cases hx) (by simp) h0 h1
    exact ⟨v, ys, Tr.step (fun m => by rw [m_laws_markFormS]; rfl) a1, a2, a3, Tr.step (fun m => by rw [m_laws_heldFormS]; rfl) (a4 [])⟩
  | succ n ih =>
    intro l hl k h0 h1
    have hx := Form.ws_len l
    obtain ⟨v, ys, a1, a2, a3, a4⟩ := markForm_loop l [] k (fun x hx => ih _ (by
      have := Form.ws_mem hx
      obtain ⟨p1, p2, p3, p4, p5⟩ := x
      rw [Form.w] at this
      show Form.ws p5 ≤ n
      omega)) (by simp only [List.length_nil]; omega) h0 h1
    exact ⟨v, ys, Tr.step (fun m => by rw [m_laws_markFormS]; rfl) a1, a2, a3, Tr.step (fun m => by rw [m_laws_heldFormS]; rfl) (a4 [])⟩
theorem mhForms (l : List Form) : MH m_laws_markFormS m_laws_heldFormS l (3 * Form.ws l) := mhForm_n _ l (Nat.le_refl _)
theorem mhForm (f : Form) (k : Int) (h0 : 0 ≤ k) (h1 : k + (3 * f.w : Nat) ≤ 4611686018427387904) : ∃ v a b, Tr (fun m => m_laws_markForm m f k) (v, a, b) ∧ k ≤ v ∧ v ≤ k + (3 * f.w : Nat) ∧ ∀ kd nm nn, Tr (fun m => m_laws_heldForm m (.mk kd nm nn a b) k) v := by
  obtain ⟨p1, p2, p3, p4, p5⟩ := f
  rw [Form.w] at h1 ⊢
  obtain ⟨v1, a, b1, b2, b3, b4⟩ := mhInt p4 k h0 (by omega)
  obtain ⟨v2, b, c1, c2, c3, c4⟩ := mhForms p5 v1 (by omega) (by omega)
  refine ⟨v2, a, b, ?_, by omega, by omega, fun kd nm nn => ?_⟩
  · refine Tr.eq (fun m => by unfold m_laws_markForm; rfl) ?_
    exact Tr.bind b1 (Tr.bind c1 Tr.val)
  · refine Tr.eq (fun m => by unfold m_laws_heldForm; rfl) ?_
    refine Tr.bind b4 (Tr.ff (mk_not_neg (by omega)) ?_)
    refine Tr.bind c4 (Tr.ff (mk_not_neg (by omega)) Tr.val)
theorem markHit_loop : ∀ (xs d : List Hit) (k : Int), (∀ x ∈ xs, MH m_laws_markHitS m_laws_heldHitS x.many (3 * Hit.ws x.many)) → d.length + xs.length ≤ 4611686018427387904 → 0 ≤ k → k + (3 * Hit.ws xs : Nat) ≤ 4611686018427387904 →
    ∃ v ys, Tr (fun m => m_laws_markHitS_l1 m k (d.length : Int) (d ++ xs)) (v, d ++ ys) ∧ k ≤ v ∧ v ≤ k + (3 * Hit.ws xs : Nat) ∧ ∀ d' : List Hit, Tr (fun m => m_laws_heldHitS_l1 m (d' ++ ys) k (d'.length : Int)) v
  | [], d, k, ih, hl, h0, h1 => ⟨k, [], Tr.step (fun m => by rw [m_laws_markHitS_l1, mk_lt_end, cond_false]) Tr.val, Int.le_refl _, by omega, fun d' => Tr.step (fun m => by rw [m_laws_heldHitS_l1, mk_lt_end, cond_false]) Tr.val⟩
  | .mk (.mk kd nm nn sc ks) dp (.mk kd' nm' nn' sc' ks') mn :: xs, d, k, ih, hl, h0, h1 => by
    rw [Hit.ws, Hit.w, Form.w, Form.w] at h1
    rw [List.length_cons] at hl
    obtain ⟨t, ht⟩ := markText_tr (k := k + 1) (by omega) (by omega)
    obtain ⟨v1, a, b1, b2, b3, b4⟩ := mhInt sc (k + 1 + 1 + 1) (by omega) (by omega)
    obtain ⟨v2, b, c1, c2, c3, c4⟩ := mhForms ks v1 (by omega) (by omega)
    obtain ⟨t', ht'⟩ := markText_tr (k := v2 + 1 + 1) (by omega) (by omega)
    obtain ⟨v3, a', d1, d2, d3, d4⟩ := mhInt sc' (v2 + 1 + 1 + 1 + 1) (by omega) (by omega)
    obtain ⟨v4, b', e1, e2, e3, e4⟩ := mhForms ks' v3 (by omega) (by omega)
    obtain ⟨v5, mm, f1, f2, f3, f4⟩ := ih _ (List.mem_cons_self ..) v4 (by omega) (by show v4 + (3 * Hit.ws mn : Nat) ≤ _; omega)
    have f3' : v5 ≤ v4 + (3 * Hit.ws mn : Nat) := f3
    obtain ⟨v, ys, a1, a2, a3, a4⟩ := markHit_loop xs (d ++ [.mk (.mk k t (k + 1 + 1) a b) v2 (.mk (v2 + 1) t' (v2 + 1 + 1 + 1) a' b') mm]) v5 (fun x hx => ih x (List.mem_cons_of_mem _ hx)) (by simp; omega) (by omega) (by omega)
    have w1 := mk_wIn h0 (by omega)
    have w2 := mk_wIn (k := k + 1) (by omega) (by omega)
    have w3 := mk_wIn (k := k + 1 + 1) (by omega) (by omega)
    have w4 := mk_wIn (k := v2) (by omega) (by omega)
    have w5 := mk_wIn (k := v2 + 1) (by omega) (by omega)
    have w6 := mk_wIn (k := v2 + 1 + 1) (by omega) (by omega)
    have w7 := mk_wIn (k := v2 + 1 + 1 + 1) (by omega) (by omega)
    refine ⟨v, .mk (.mk k t (k + 1 + 1) a b) v2 (.mk (v2 + 1) t' (v2 + 1 + 1 + 1) a' b') mm :: ys, ?_, by omega, by rw [Hit.ws, Hit.w, Form.w, Form.w]; omega, fun d' => ?_⟩
    · refine Tr.step (fun m => by rewrite [m_laws_markHitS_l1]; simp only [Form.kind, Form.name, Form.n, Form.scopes, Form.kids, Hit.name, Hit.depth, Hit.one, Hit.many, mk_lt_mid, cond_true, mk_idx_mid, Option.bind_some, mk_set_mid, w1, w2, w3]; rfl) ?_
      refine Tr.bind ht (Tr.bind b1 (Tr.bind c1 ?_))
      refine Tr.eq (fun m => by simp only [w4, w5, w6, w7]; rfl) (Tr.bind ht' ?_)
      refine Tr.bind d1 (Tr.bind e1 (Tr.bind f1 ?_))
      refine Tr.eq (fun m => ?_) (mk_mid_app d (.mk (.mk k t (k + 1 + 1) a b) v2 (.mk (v2 + 1) t' (v2 + 1 + 1 + 1) a' b') mm) ys ▸ a1)
      rw [← mk_mid_app, ← mk_mid_lenw _ _ (by omega)]
    · refine Tr.step (fun m => by rewrite [m_laws_heldHitS_l1]; simp only [Form.kind, Form.name, Form.n, Form.scopes, Form.kids, Hit.name, Hit.depth, Hit.one, Hit.many, mk_lt_mid, cond_true, mk_idx_mid, Option.bind_some, w1, w2, w3]; rfl) ?_
      refine Tr.ff (mk_ne_self_f k) ?_
      refine Tr.bind ht (Tr.ff (mk_ne_self_f t) (Tr.ff (mk_ne_self_f (k + 1 + 1)) ?_))
      refine Tr.bind b4 (Tr.ff (mk_not_neg (by omega)) ?_)
      refine Tr.bind c4 (Tr.ff (mk_not_neg (by omega)) ?_)
      refine Tr.eq (fun m => by simp only [w4, w5, w6, w7]; rfl) ?_
      refine Tr.ff (mk_ne_self_f v2) (Tr.ff (mk_ne_self_f (v2 + 1)) ?_)
      refine Tr.bind ht' (Tr.ff (mk_ne_self_f t') (Tr.ff (mk_ne_self_f (v2 + 1 + 1 + 1)) ?_))
      refine Tr.bind d4 (Tr.ff (mk_not_neg (by omega)) ?_)
      refine Tr.bind e4 (Tr.ff (mk_not_neg (by omega)) ?_)
      refine Tr.bind f4 (Tr.ff (mk_not_neg (by omega)) ?_)
      refine Tr.eq (fun m => ?_) (a4 (d' ++ [.mk (.mk k t (k + 1 + 1) a b) v2 (.mk (v2 + 1) t' (v2 + 1 + 1 + 1) a' b') mm]))
      rw [← mk_mid_app, ← mk_mid_len]
theorem mhHit_n : ∀ (n : Nat) (l : List Hit), Hit.ws l ≤ n → MH m_laws_markHitS m_laws_heldHitS l (3 * Hit.ws l) := by
  intro n
  induction n with
  | zero =>
    intro l hl k h0 h1
    have hx := Hit.ws_len l
    have : l = [] := List.eq_nil_of_length_eq_zero (by omega)
    subst this
    obtain ⟨v, ys, a1, a2, a3, a4⟩ := markHit_loop [] [] k (fun x hx => by cases hx) (by simp) h0 h1
    exact ⟨v, ys, Tr.step (fun m => by rw [m_laws_markHitS]; rfl) a1, a2, a3, Tr.step (fun m => by rw [m_laws_heldHitS]; rfl) (a4 [])⟩
  | succ n ih =>
    intro l hl k h0 h1
    have hx := Hit.ws_len l
    obtain ⟨v, ys, a1, a2, a3, a4⟩ := markHit_loop l [] k (fun x hx => ih _ (by
      have := Hit.ws_mem hx
      obtain ⟨p1, p2, p3, p4⟩ := x
      rw [Hit.w] at this
      show Hit.ws p4 ≤ n
      omega)) (by simp only [List.length_nil]; omega) h0 h1
    exact ⟨v, ys, Tr.step (fun m => by rw [m_laws_markHitS]; rfl) a1, a2, a3, Tr.step (fun m => by rw [m_laws_heldHitS]; rfl) (a4 [])⟩
theorem mhHits (l : List Hit) : MH m_laws_markHitS m_laws_heldHitS l (3 * Hit.ws l) := mhHit_n _ l (Nat.le_refl _)
end Go.Abs
end
section
set_option linter.unusedVariables false
set_option linter.unusedSimpArgs false
namespace Go.Abs
theorem eqHitS_self (a : List Hit) : Tr (fun m => m_laws_eqHitS m a a) true := by have := eqHitS_tr a a; rwa [same_self] at this
end Go.Abs
end
section
set_option linter.unusedVariables false
set_option linter.unusedSimpArgs false
namespace Go.Abs
theorem fillT_w (t : Form) (hs : List Hit) : (fillT t hs).1.w ≤ 10426 := by
  rcases fillT_cases t hs with h | ⟨y, _, _, _, h4, h5⟩
  · rw [h]; decide
  · rw [h5]; exact Nat.le_trans (valid_w h4) (by decide)
theorem FnExactFillTemplate_law (t : Form) (hs : List Hit) (hf : t.fit) (hll : hs.length ≤ 9223372036854775807) (hl : Hit.fits hs) : TQ (fun m => m_laws_FnExactFillTemplate m t hs) (fun r => r = true) := by
  refine TQ.eq (fun m => by unfold m_laws_FnExactFillTemplate; rfl) (TQ.bind (szForm_tq t 1048576 hf (by omega) (by omega)) (fun v hv => ?_))
  rcases hv with rfl | ⟨h0, rfl⟩
  · exact TQ.cond (fun _ => TQ.val rfl) (fun h => absurd h (by decide))
  refine TQ.cond (fun h => absurd h (by rw [geZ h0]; decide)) (fun _ => TQ.bind (szHitS_tq hs _ hll hl h0 (by omega)) (fun v hv => ?_))
  rcases hv with rfl | ⟨h1, rfl⟩
  · exact TQ.cond (fun _ => TQ.val rfl) (fun h => absurd h (by decide))
  refine TQ.cond (fun h => absurd h (by rw [geZ h1]; decide)) (fun _ => ?_)
  have hw := t.w_wt
  have hws := Hit.ws_wts hs
  have hb : t.w ≤ 2 ^ 36 := by omega
  have hlb : Hit.ws hs ≤ 2 ^ 36 := by omega
  have hr := fillT_w t hs
  have hfo : ∀ y, t.fl hs = some y → y.fit := fun y hy => fl_fit hf hl hy
  refine ⟨true, ?_, rfl⟩
  obtain ⟨v1, a, b, n1, n2, n3, n4⟩ := mhForm t 1 (by omega) (by omega)
  obtain ⟨v2, ms, m1, m2, m3, m4⟩ := mhHits hs v1 (by omega) (by omega)
  obtain ⟨v, p1, p2, a1, a2, a3, a4⟩ := mhForm (fillT t hs).1 1 (by omega) (by omega)
  have tl := toHitS_tr hs hlb
  have tf := toForm_tr t hb
  have ti := implFillTemplate_tr t hs hf hb hl hlb hfo
  have eh := eqForm_self (fillT t hs).1
  refine Tr.bind tf (Tr.bind tl (Tr.bind (specFillTemplate_tr t hs hf hb hl hlb hfo) (Tr.bind tf (Tr.bind tl (Tr.bind ti (Tr.bind eh (Tr.ff rfl ?_)))))))
  refine Tr.eq (fun m => by rw [mk_ne_self_f]) ?_
  refine Tr.step (fun m => by rw [m_laws_FnExactFillTemplate_j1]) ?_
  refine Tr.ff rfl ?_
  refine Tr.bind tf (Tr.bind (eqForm_self t) (Tr.ff rfl (Tr.bind tl (Tr.bind (eqHitS_self hs) (Tr.ff rfl (Tr.bind n1 (Tr.bind m1 (Tr.ff (mk_not_neg (by show 0 ≤ v2; omega)) (Tr.bind eh (Tr.ff rfl ?_))))))))))
  refine Tr.eq (fun m => by rw [mk_ne_self_f]) ?_
  refine Tr.step (fun m => by rw [m_laws_FnExactFillTemplate_j2]) ?_
  refine Tr.ff rfl ?_
  refine Tr.bind a1 (Tr.bind (a4 _ _ _) (Tr.ff (mk_not_neg (by omega)) (Tr.ff (mk_ne_self_f v) ?_)))
  refine Tr.bind tf (Tr.bind tl (Tr.bind ti (Tr.bind eh (Tr.ff rfl ?_))))
  refine Tr.eq (fun m => by rw [mk_ne_self_f]) ?_
  refine Tr.step (fun m => by rw [m_laws_FnExactFillTemplate_j3]) ?_
  refine Tr.ff rfl ?_
  exact Tr.bind (a4 _ _ _) (Tr.ff (mk_not_neg (by omega)) (Tr.ff (mk_ne_self_f v) Tr.val))
end Go.Abs
end
