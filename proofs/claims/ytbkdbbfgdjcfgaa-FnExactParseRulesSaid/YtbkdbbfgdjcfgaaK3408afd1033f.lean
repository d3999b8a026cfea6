/- A part of the proof: what the functions that the law calls answer, as pure values. -/
import Derived.KernelRfl
import Derived.Test.YtbkdbbfgdjcfgaaK0b7d7560d506
import Derived.Test.YtbkdbbfgdjcfgaaK4fd39b116326
import Derived.Test.YtbkdbbfgdjcfgaaK96cd8f24d73b
import Derived.Test.YtbkdbbfgdjcfgaaKd09531658691
import Derived.Test.YtbkdbbfgdjcfgaaKffb5d25712d4
set_option linter.unusedSimpArgs false
set_option linter.unusedVariables false
section
set_option linter.unusedVariables false
set_option linter.unusedSimpArgs false
namespace Go.Abs
theorem l1Copy_tr : ∀ (n : Nat) (f : Form), f.w ≤ n → f.w ≤ 2 ^ 36 → Tr (fun m => m_spec_l1Copy m f) f := by
  intro n
  induction n with
  | zero => intro f h _; have := f.w_kids; omega
  | succ n ih =>
    intro f h hb
    have hw := f.w_kids
    have hl := Form.ws_len f.kids
    refine Tr.step (fun m => by rw [m_spec_l1Copy]) ?_
    refine Tr.chk (by simp; omega) ?_
    have key := drop_ind f.kids (fun k ys => ∀ acc : List Form, acc.length = k → Tr (fun m => m_spec_l1Copy_l1 m f (k : Int) acc) (Form.mk f.kind f.name f.n f.scopes (acc ++ ys))) ?_ ?_ 0 (Nat.zero_le _) [] rfl
    · rw [List.drop_zero, List.nil_append] at key
      obtain ⟨a, b, c, d, e⟩ := f
      exact key
    · intro acc _
      refine Tr.step (fun m => by rw [m_spec_l1Copy_l1, ltN_self]) ?_
      rw [List.append_nil]; exact Tr.val
    · intro k x xs hk hx hd ihk acc hacc
      have hmem : x ∈ f.kids := List.mem_of_getElem? hx
      have hxw := Form.ws_mem hmem
      refine Tr.step (fun m => by rw [m_spec_l1Copy_l1, ltN hk, idx_nat hx, succN]) ?_
      refine Tr.bind (ih x (by omega) (by omega)) ?_
      refine Tr.chk (by simp; omega) ?_
      have := ihk (acc ++ [x]) (by simp; exact hacc)
      rwa [List.append_assoc] at this
end Go.Abs
end
section
set_option linter.unusedVariables false
namespace Go.Abs
mutual
def Form.fitB : Form → Bool
  | .mk _ name _ scopes kids => decide (name.size ≤ 100) && (decide (scopes.length ≤ 100) && (decide (kids.length ≤ 100) && Form.fitBs kids))
def Form.fitBs : List Form → Bool
  | [] => true
  | f :: fs => f.fitB && Form.fitBs fs
end
structure Parsed (s : ByteArray) (f : Form) : Prop where
  tr : Tr (fun m => m_spec_l1Parse m s) f
  w : f.w ≤ 100
  fit : f.fit
end Go.Abs
end
section
set_option linter.unusedVariables false
set_option linter.unusedSimpArgs false
namespace Go.Abs
theorem Form.fits_one {f : Form} (h : f.fit) : Form.fits [f] := by rw [Form.fits, Form.fits]; exact ⟨h, trivial⟩
theorem Form.fits_nil : Form.fits [] := by rw [Form.fits]; trivial
theorem TQ.same {α : Type} {F : Nat → Option α} {v : α} (h : Tr F v) : TQ F (fun r => r = v) := ⟨v, h, rfl⟩
theorem TQ.tr {α : Type} {F : Nat → Option α} {v : α} (h : TQ F (fun r => r = v)) : Tr F v := by obtain ⟨r, h, rfl⟩ := h; exact h
theorem TQ.at {α β : Type} {l : List α} {i : Int} {x : α} {g : α → Nat → Option β} {R : β → Prop} (hx : Abs.idx l i = some x) (h : TQ (fun m => g x m) R) : TQ (fun m => (Abs.idx l i).bind fun y => g y m) R := by
  obtain ⟨w, hw, hr⟩ := h
  exact ⟨w, Tr.idx hx hw, hr⟩
structure Dr (n : Nat) (f : Form) : Prop where
  w : f.w ≤ n
  fit : f.fit
theorem Dr.mono {n k : Nat} {f : Form} (h : Dr n f) (hk : n ≤ k) : Dr k f := ⟨Nat.le_trans h.w hk, h.fit⟩
theorem Parsed.dr {s : ByteArray} {f : Form} (h : Parsed s f) : Dr 100 f := ⟨h.w, h.fit⟩
theorem nameForm_dr {s : ByteArray} (h : s.size ≤ 100) : Dr 1 (Form.mk 1 s 0 ([] : List Int) ([] : List Form)) := ⟨by simp [Form.w, Form.ws], by rw [Form.fit, Form.fits]; simp; omega⟩
def elseF : Form := Form.mk 1 (⟨#[101, 108, 115, 101]⟩ : ByteArray) 0 ([] : List Int) ([] : List Form)
theorem elseF_dr : Dr 1 elseF := nameForm_dr (by decide)
def lits4 (l : List Form) : Prop := l = [elseF] ∨ l = []
theorem lits4.dr {l : List Form} (h : lits4 l) : Form.ws l ≤ 2 ∧ Form.fits l ∧ l.length ≤ 1 := by
  rcases h with rfl | rfl
  · exact ⟨by decide, Form.fits_one elseF_dr.fit, by decide⟩
  · exact ⟨by decide, Form.fits_nil, by decide⟩
end Go.Abs
end
section
set_option linter.unusedVariables false
set_option linter.unusedSimpArgs false
namespace Go.Abs
theorem loop_app {α β γ : Type} {xs : List α} {c : Nat} {f : α → β} {L : Nat → Int → List β → Option γ} {E : Nat → α → Option β} {fin : List β → γ}
    (h0 : ∀ m k acc, L (m + 1) k acc = bif decide (k < (xs.length : Int)) then (idx xs k).bind fun a => (E m a).bind fun v => chk (decide ((acc.length + [v].length) * c ≤ 140737488355328)) (L m (k + 1) (acc ++ [v])) else some (fin acc))
    (hE : ∀ a ∈ xs, Tr (fun m => E m a) (f a)) (acc0 : List β) (hb : (acc0.length + xs.length) * c ≤ 140737488355328) : Tr (fun m => L m 0 acc0) (fin (acc0 ++ xs.map f)) := by
  have key := drop_ind xs (fun k zs => ∀ acc : List β, (acc.length + zs.length) * c ≤ 140737488355328 → Tr (fun m => L m (k : Int) acc) (fin (acc ++ zs.map f))) ?_ ?_ 0 (Nat.zero_le _) acc0 (by simpa using hb)
  · simpa using key
  · intro acc _
    refine Tr.step (fun m => by rw [h0, ltN_self, cond_false]) ?_
    rw [List.map_nil, List.append_nil]; exact Tr.val
  · intro k x zs hk hx hd ih acc hc
    refine Tr.step (fun m => by rw [h0, ltN hk, cond_true, idx_nat hx, Option.bind_some, succN]) ?_
    refine Tr.bind (hE x (List.mem_of_getElem? hx)) ?_
    have hc1 : (acc.length + 1) * c ≤ 140737488355328 := Nat.le_trans (Nat.mul_le_mul_right c (by simp)) hc
    refine Tr.chk (decide_eq_true (by simpa using hc1)) ?_
    have := ih (acc ++ [f x]) (by
      refine Nat.le_trans (Nat.mul_le_mul_right c ?_) hc
      simp; omega)
    rwa [List.append_assoc] at this
theorem clone_tr (l : List Int) (h : l.length ≤ 2 ^ 36) : Tr (fun m => m_slices_Clone_int m l) l :=
  Tr.eq (fun m => by unfold m_slices_Clone_int; rfl) (Tr.chk (decide_eq_true (by simp; omega)) Tr.val)
theorem copyForm_n : ∀ (n : Nat) (f : Form), f.w ≤ n → f.w ≤ 2 ^ 36 → Tr (fun m => m_impl_copyForm m f) f := by
  intro n
  induction n with
  | zero => intro f h _; have := f.w_kids; omega
  | succ n ih =>
    intro f h hb
    have hw := f.w_kids
    have hl := Form.ws_len f.kids
    refine Tr.step (fun m => by rw [m_impl_copyForm]) (Tr.bind (clone_tr _ (by omega)) ?_)
    have := loop_app (xs := f.kids) (c := 80) (f := fun x => x) (L := fun m k acc => m_impl_copyForm_l1 m f f.scopes k acc) (E := fun m a => m_impl_copyForm m a) (fin := fun g => Form.mk f.kind f.name f.n f.scopes g)
      (fun m k acc => by rw [m_impl_copyForm_l1]) (fun a ha => ih a (by have := Form.ws_mem ha; omega) (by have := Form.ws_mem ha; omega)) [] (by simp; omega)
    rw [List.map_id', List.nil_append] at this
    obtain ⟨a, b, c, d, e⟩ := f
    exact this
theorem copyForm_tr (f : Form) (h : f.w ≤ 2 ^ 36) : Tr (fun m => m_impl_copyForm m f) f := copyForm_n _ f (Nat.le_refl _) h
mutual
noncomputable def Form.part (x : Form) : Form → Bool
  | .mk a b c d kids => same (Form.mk a b c d kids) x || Form.parts x kids
noncomputable def Form.parts (x : Form) : List Form → Bool
  | [] => false
  | y :: ys => Form.part x y || Form.parts x ys
end
end Go.Abs
end
section
set_option linter.unusedVariables false
set_option linter.unusedSimpArgs false
namespace Go.Abs
def hit0 : Hit := Hit.mk (Form.mk 0 (⟨#[]⟩ : ByteArray) 0 ([] : List Int) ([] : List Form)) 0 (Form.mk 0 (⟨#[]⟩ : ByteArray) 0 ([] : List Int) ([] : List Form)) ([] : List Hit)
end Go.Abs
end
section
set_option linter.unusedVariables false
set_option linter.unusedSimpArgs false
namespace Go.Abs
def anys {α : Type} (D : α → Bool) : List α → Bool
  | [] => false
  | x :: xs => D x || anys D xs
theorem anys_iff {α : Type} {D : α → Bool} : ∀ {l : List α}, anys D l = true ↔ ∃ x ∈ l, D x = true
  | [] => by simp [anys]
  | x :: xs => by rw [anys, Bool.or_eq_true, anys_iff]; simp
def hasB (l : List Int) (n : Int) : Bool := anys (fun x => decide (x = n)) l
def withinB (a b : List Int) : Bool := alls (fun x => hasB b x) a
def bind0 : Bind := Bind.mk (⟨#[]⟩ : ByteArray) [] 0
def bAt (l : List Bind) (i : Int) : Bind := l.getD i.toNat bind0
def fitB (f : Form) (b : Bind) : Bool := decide (b.name = f.name) && withinB b.scopes f.scopes
def fitsF (f : Form) : List Bind → Nat → List Int
  | [], _ => []
  | b :: bs, k => (bif fitB f b then [(k : Int)] else []) ++ fitsF f bs (k + 1)
def fitsB (l : List Bind) (f : Form) : List Int := fitsF f l 0
def bestB (l : List Bind) (fits : List Int) (i : Int) : Bool := alls (fun j => withinB (bAt l j).scopes (bAt l i).scopes) fits
def firstB (l : List Bind) (fits : List Int) : List Int → Option Int
  | [] => none
  | i :: is => bif bestB l fits i then some i else firstB l fits is
def refB (l : List Bind) (f : Form) : Int × Int :=
  match firstB l (fitsB l f) (fitsB l f) with
  | some i => (i, 1)
  | none => (0, bif decide (0 < ((fitsB l f).length : Int)) then 2 else 0)
def refS (l : List Bind) (a b : Form) : Bool :=
  decide ((refB l a).2 = (refB l b).2) && (!decide ((refB l a).2 = 2) && (bif decide ((refB l a).2 = 0) then decide (a.name = b.name) else decide ((bAt l (refB l a).1).id = (bAt l (refB l b).1).id)))
end Go.Abs
end
section
set_option linter.unusedVariables false
set_option linter.unusedSimpArgs false
namespace Go.Abs
def rowH : Nat → List (Form × Int) → List (List Hit) → List Hit
  | _, [], _ => []
  | k, v :: vs, rows => Hit.mk v.1 (v.2 + 1) form0 (rows.map fun r => r.getD k hit0) :: rowH (k + 1) vs rows
def allM {α β : Type} (D : α → Option β) : List α → Option (List β)
  | [] => some []
  | x :: xs => match D x with
    | none => none
    | some y => match allM D xs with
      | none => none
      | some ys => some (y :: ys)
def oapp {α : Type} : Option (List α) → Option (List α) → Option (List α)
  | some a, some b => some (a ++ b)
  | _, _ => none
mutual
noncomputable def Form.mt (bs : List Bind) (lits : List Form) : Form → Form → Option (List Hit)
  | .mk k nm n sc kids, f =>
    bif decide (k = 1) then
      bif decide (nm = underN) then some []
      else bif inF lits (.mk k nm n sc kids) then (bif decide (f.kind = 1) && refS bs (.mk k nm n sc kids) f then some [] else none)
      else some [Hit.mk (.mk k nm n sc kids) 0 f []]
    else bif decide (k = 2) then (bif same (.mk k nm n sc kids) f then some [] else none)
    else bif decide (f.kind ≠ 3) then none else Form.mts bs lits kids f.kids
noncomputable def Form.mts (bs : List Bind) (lits : List Form) : List Form → List Form → Option (List Hit)
  | [], fs => bif decide (fs.length = 0) then some [] else none
  | p :: ps, fs =>
    bif isDots p then Form.mts bs lits ps fs
    else bif nextD ps then
      bif decide (fs.length + 1 < ps.length) then none
      else match allM (fun f => Form.mt bs lits p f) (fs.take (fs.length + 1 - ps.length)) with
        | none => none
        | some rows => oapp (some (rowH 0 (p.vd lits 0) rows)) (Form.mts bs lits ps (fs.drop (fs.length + 1 - ps.length)))
    else match fs with
      | [] => none
      | f :: fs' => oapp (Form.mt bs lits p f) (Form.mts bs lits ps fs')
end
structure PatS (p : Form) : Prop where
  ok : ∃ d, p.isOk d = true
  shp : p.shp = true
def KidS (x : Form) : Prop := (∃ d, x.isOk d = true) ∧ (isDots x = true ∨ x.shp = true)
theorem isOk_kids {f : Form} {d : Nat} (h : f.isOk d = true) : (f.kind ≠ 3 → f.kids = []) ∧ ∀ x ∈ f.kids, x.isOk (d - 1) = true := by
  rw [Form.isOk_eq] at h
  cases hd : decide (d = 0) with
  | true => rw [hd] at h; cases h
  | false =>
  rw [hd, cond_false] at h
  by_cases h1 : f.kind = 1
  · rw [decide_eq_true h1, cond_true] at h
    simp only [Bool.and_eq_true, decide_eq_true_eq] at h
    have : f.kids = [] := List.eq_nil_of_length_eq_zero (by omega)
    exact ⟨fun _ => this, fun x hx => by rw [this] at hx; cases hx⟩
  · rw [decide_eq_false h1, cond_false] at h
    by_cases h2 : f.kind = 2
    · rw [decide_eq_true h2, cond_true] at h
      simp only [Bool.and_eq_true, decide_eq_true_eq] at h
      have : f.kids = [] := List.eq_nil_of_length_eq_zero (by omega)
      exact ⟨fun _ => this, fun x hx => by rw [this] at hx; cases hx⟩
    · rw [decide_eq_false h2, cond_false] at h
      simp only [Bool.and_eq_true, decide_eq_true_eq] at h
      obtain ⟨h3, _, _, _, h4⟩ := h
      exact ⟨fun hn => absurd h3 hn, fun x hx => alls_iff.1 h4 x hx⟩
theorem kP_mem : ∀ {l : List Form} {pd : Bool}, Form.kP pd l = true → ∀ x ∈ l, isDots x = true ∨ x.shp = true
  | y :: ys, pd, h, x, hx => by
    rw [Form.kP, Bool.and_eq_true] at h
    rcases List.mem_cons.1 hx with rfl | hx
    · cases hd : isDots x with
      | true => exact .inl rfl
      | false => have := h.1; rw [hd, cond_false] at this; exact .inr this
    · exact kP_mem h.2 x hx
theorem PatS.parts {p : Form} (h : PatS p) : isDots p = false ∧ Form.kP true p.kids = true ∧ cntD p.kids ≤ 1 ∧ (∀ x ∈ p.kids, KidS x) ∧ (p.kind ≠ 3 → p.kids = []) := by
  obtain ⟨⟨d, hd⟩, hs⟩ := h
  rw [Form.shp_eq, Bool.and_eq_true, Bool.and_eq_true, Bool.not_eq_true', decide_eq_true_eq] at hs
  obtain ⟨k1, k2⟩ := isOk_kids hd
  exact ⟨hs.1, hs.2.1, hs.2.2, fun x hx => ⟨⟨_, k2 x hx⟩, kP_mem hs.2.1 x hx⟩, k1⟩
theorem KidS.dots {x : Form} (h : KidS x) (hd : isDots x = true) (lits : List Form) : x.vs lits = [] ∧ isVarB lits x = false ∧ x.kids = [] := by
  obtain ⟨⟨d, h⟩, _⟩ := h
  unfold isDots at hd
  rw [Bool.and_eq_true, decide_eq_true_eq, decide_eq_true_eq] at hd
  have hk : x.kids = [] := (isOk_kids h).1 (by omega)
  have hv : isVarB lits x = false := by unfold isVarB; rw [decide_eq_true hd.1, decide_eq_true hd.2]; rfl
  exact ⟨by rw [Form.vs_eq, hk, hv]; rfl, hv, hk⟩
end Go.Abs
end
section
set_option linter.unusedVariables false
set_option linter.unusedSimpArgs false
namespace Go.Abs
def MR (o : Option (List Hit)) (out : List Hit) (r : List Hit × Bool) : Prop := r.2 = o.isSome ∧ ∀ h, o = some h → r.1 = out ++ h
theorem MR.none {out : List Hit} {x : List Hit} : MR none out (x, false) := ⟨rfl, fun h hh => by cases hh⟩
end Go.Abs
end
section
set_option linter.unusedVariables false
set_option linter.unusedSimpArgs false
namespace Go.Abs
def Bind.fit (b : Bind) : Prop := b.name.size ≤ 9223372036854775807 ∧ b.scopes.length ≤ 9223372036854775807
end Go.Abs
end
section
set_option linter.unusedVariables false
set_option linter.unusedSimpArgs false
namespace Go.Abs
noncomputable def rulesOkB (rules : List Rule) (lits : List Form) : Bool := alls (fun r => ruleOk r lits) rules && (decide ((rules.length : Int) ≤ 9) && litOk lits)
structure DrR (n : Nat) (r : Rule) : Prop where
  p : Dr n r.pattern
  t : Dr n r.template
theorem l5Rules_tr (rules : List Rule) (lits : List Form) (hr : ∀ r ∈ rules, DrR (2 ^ 36) r) (hl : Form.fits lits) (hlb : Form.ws lits ≤ 2 ^ 36) : Tr (fun m => m_spec_l5Rules m rules lits) (rulesOkB rules lits) := by
  refine Tr.eq (fun m => by unfold m_spec_l5Rules; rfl) ?_
  have key := drop_ind rules (fun k zs => (∀ z ∈ zs, z ∈ rules) → Tr (fun m => m_spec_l5Rules_l1 m rules lits (k : Int)) (alls (fun r => ruleOk r lits) zs && (decide ((rules.length : Int) ≤ 9) && litOk lits))) ?_ ?_ 0 (Nat.zero_le _) (fun z hz => by simpa using hz)
  · exact key
  · intro _
    refine Tr.step (fun m => by rw [m_spec_l5Rules_l1, ltN_self, cond_false]) (Tr.step (fun m => by rw [m_spec_l5Rules_j2, cond_false]) ?_)
    rw [alls, Bool.true_and]
    by_cases h9 : (rules.length : Int) ≤ 9
    · rw [decide_eq_true h9, Bool.true_and]
      exact Tr.tt (decide_eq_true (by omega)) (Tr.bind (specLit_tr lits hl hlb) Tr.val)
    · rw [decide_eq_false h9, Bool.false_and]
      exact Tr.ff (decide_eq_false (by omega)) Tr.val
  · intro k x zs hk hx hd ih hz
    have hxr := hr x (hz x (by simp))
    refine Tr.step (fun m => by rw [m_spec_l5Rules_l1, ltN hk, cond_true]) ?_
    by_cases h10 : (k : Int) < 10
    · refine Tr.step (fun m => by rw [m_spec_l5Rules_j2, decide_eq_true h10, cond_true, idx_nat hx, Option.bind_some]) ?_
      have hsr := specRuleValid_tr x lits hxr.p.fit hxr.p.w hxr.t.fit hxr.t.w hl hlb
      have hsr2 : Tr (fun m => m_spec_l5Rule m x lits) (ruleOk x lits) := by
        obtain ⟨n, h⟩ := hsr
        refine ⟨n, fun m hm => ?_⟩
        have := h m hm
        unfold m_spec_RuleValid at this
        show m_spec_l5Rule m x lits = _
        replace this : (m_spec_l5Rule m x lits).bind (fun v1 => some v1) = some (ruleOk x lits) := this
        cases h5 : m_spec_l5Rule m x lits with
        | none => rw [h5] at this; cases this
        | some b => rw [h5] at this; exact this
      refine Tr.bind hsr2 ?_
      rw [alls]
      cases ruleOk x lits with
      | false => exact Tr.tt rfl Tr.val
      | true => exact Tr.ff rfl (Tr.eq (fun m => by rw [w64_in (by omega), succN]) (ih (fun z h => hz z (by simp [h]))))
    · refine Tr.step (fun m => by rw [m_spec_l5Rules_j2, decide_eq_false h10, cond_false]) ?_
      rw [decide_eq_false (show ¬ (rules.length : Int) ≤ 9 by omega), Bool.false_and, Bool.and_false]
      exact Tr.ff (decide_eq_false (by omega)) Tr.val
def ruleOf (x : Form) : Rule := Rule.mk (x.kids.getD 0 form0) (x.kids.getD 1 form0)
def ruleShape (x : Form) : Bool := decide (x.kind = 3) && decide (x.kids.length = 2)
def rulesN : ByteArray := ⟨#[114, 117, 108, 101, 115]⟩
def isRules (f : Form) : Bool := f.valid && (decide (f.kind = 3) && (decide (2 ≤ f.kids.length) && (decide ((f.kids.getD 0 form0).name = rulesN) && decide ((f.kids.getD 1 form0).kind = 3))))
noncomputable def parseR (f : Form) : List Form × List Rule × Bool :=
  bif isRules f then
    bif alls ruleShape (f.kids.drop 2) then
      bif rulesOkB ((f.kids.drop 2).map ruleOf) (f.kids.getD 1 form0).kids then ((f.kids.getD 1 form0).kids, (f.kids.drop 2).map ruleOf, true) else ([], [], false)
    else ([], [], false)
  else ([], [], false)
theorem getD_mem {α : Type} {l : List α} {k : Nat} {d : α} (h : k < l.length) : l[k]? = some (l.getD k d) ∧ l.getD k d ∈ l := by
  have : l[k]? = some (l.getD k d) := by rw [List.getD_eq_getElem?_getD, List.getElem?_eq_getElem h]; rfl
  exact ⟨this, List.mem_of_getElem? this⟩
theorem kid_dr {n : Nat} {f x : Form} (h : Dr n f) (hx : x ∈ f.kids) : Dr n x := ⟨by have := Form.ws_mem hx; have := f.w_kids; have := h.w; omega, Form.fits_mem h.fit.parts.2.2.2 hx⟩
theorem ruleOf_dr {n : Nat} {x : Form} (h : Dr n x) (hs : ruleShape x = true) : DrR n (ruleOf x) := by
  unfold ruleShape at hs
  rw [Bool.and_eq_true, decide_eq_true_eq, decide_eq_true_eq] at hs
  exact ⟨kid_dr h (getD_mem (by omega)).2, kid_dr h (getD_mem (by omega)).2⟩
theorem specParseRules_tr (f : Form) (hf : Dr (2 ^ 30) f) : Tr (fun m => m_spec_ParseRules m f) (parseR f) := by
  have hw := f.w_kids
  have hfw := hf.w
  have hfl := Form.ws_len f.kids
  refine Tr.eq (fun m => by unfold m_spec_ParseRules; rfl) (Tr.bind (specFormValid_tr f hf.fit (by omega)) ?_)
  have no : Tr (fun m => m_spec_ParseRules_j1 m f true) (([] : List Form), ([] : List Rule), false) := Tr.step (fun m => by rw [m_spec_ParseRules_j1]; rfl) Tr.val
  unfold parseR isRules
  cases f.valid with
  | false => exact Tr.tt rfl no
  | true =>
  refine Tr.ff rfl ?_
  by_cases h3 : f.kind = 3
  case neg => rw [decide_eq_false h3]; exact Tr.tt (by simpa using h3) no
  rw [decide_eq_true h3]
  refine Tr.ff (by simpa using h3) ?_
  by_cases h2 : 2 ≤ f.kids.length
  case neg => rw [decide_eq_false h2]; exact Tr.tt (decide_eq_true (by omega)) no
  rw [decide_eq_true h2]
  obtain ⟨g0, m0⟩ := getD_mem (l := f.kids) (k := 0) (d := form0) (by omega)
  obtain ⟨g1, m1⟩ := getD_mem (l := f.kids) (k := 1) (d := form0) (by omega)
  generalize hk0 : f.kids.getD 0 form0 = k0 at g0 m0
  generalize hk1 : f.kids.getD 1 form0 = k1 at g1 m1
  have i0 : idx f.kids 0 = some k0 := idx_nat g0
  have i1 : idx f.kids 1 = some k1 := idx_nat g1
  refine Tr.ff (decide_eq_false (by omega)) (Tr.eq (fun m => by rw [i0, Option.bind_some]) ?_)
  by_cases hn : k0.name = rulesN
  case neg => rw [decide_eq_false hn]; exact Tr.tt (decide_eq_true hn) no
  rw [decide_eq_true hn]
  refine Tr.ff (decide_eq_false (not_not_intro hn)) (Tr.eq (fun m => by rw [i1, Option.bind_some]) ?_)
  by_cases hk : k1.kind = 3
  case neg => rw [decide_eq_false hk]; exact Tr.eq (fun m => by rw [decide_eq_true (show k1.kind ≠ 3 from hk)]) no
  rw [decide_eq_true hk]
  refine Tr.step (fun m => by rw [m_spec_ParseRules_j1, decide_eq_false (show ¬ k1.kind ≠ 3 by simp [hk]), cond_false]) ?_
  rw [Bool.and_true, Bool.and_true, Bool.and_true, Bool.and_true, cond_true]
  have d1 := kid_dr hf m1
  have d1w := d1.w
  have k1w := k1.w_kids
  have k1l := Form.ws_len k1.kids
  -- what comes behind the literals
  have tail : Tr (fun m => m_spec_ParseRules_j2 m f k1.kids) (bif alls ruleShape (f.kids.drop 2) then
      bif rulesOkB ((f.kids.drop 2).map ruleOf) k1.kids then (k1.kids, (f.kids.drop 2).map ruleOf, true) else ([], [], false)
    else ([], [], false)) := by
    refine Tr.step (fun m => by rw [m_spec_ParseRules_j2]) ?_
    have key : ∀ (zs : List Form) (k : Nat) (rs : List Rule), f.kids.drop k = zs → rs.length ≤ k → alls ruleShape zs = alls ruleShape (f.kids.drop 2) → (alls ruleShape zs = true → rs ++ zs.map ruleOf = (f.kids.drop 2).map ruleOf) → Tr (fun m => m_spec_ParseRules_l5 m f k1.kids rs (k : Int)) (bif alls ruleShape (f.kids.drop 2) then
      bif rulesOkB ((f.kids.drop 2).map ruleOf) k1.kids then (k1.kids, (f.kids.drop 2).map ruleOf, true) else ([], [], false)
    else ([], [], false)) := by
      intro zs
      induction zs with
      | nil =>
        intro k rs hd hr ha he
        have hk' : ¬ k < f.kids.length := by have := congrArg List.length hd; rw [List.length_drop] at this; simp at this; omega
        rw [← ha]
        have he2 := he rfl
        rw [List.map_nil, List.append_nil] at he2
        rw [alls, cond_true]
        refine Tr.step (fun m => by rw [m_spec_ParseRules_l5, geN hk', cond_false]) (Tr.step (fun m => by rw [m_spec_ParseRules_j4]) ?_)
        rw [he2]
        have hall : alls ruleShape (f.kids.drop 2) = true := by rw [← ha]; rfl
        refine Tr.bind (l5Rules_tr _ k1.kids (fun r hr => ?_) d1.fit.parts.2.2.2 (by omega)) ?_
        · obtain ⟨x, hx, rfl⟩ := List.mem_map.1 hr
          have := ruleOf_dr (kid_dr hf (List.mem_of_mem_drop hx)) (alls_iff.1 hall x hx)
          exact ⟨this.p.mono (by omega), this.t.mono (by omega)⟩
        · cases rulesOkB ((f.kids.drop 2).map ruleOf) k1.kids with
          | false => exact Tr.tt rfl Tr.val
          | true => exact Tr.ff rfl Tr.val
      | cons x xs ih =>
        intro k rs hd hr ha he
        have hk' : k < f.kids.length := by have := congrArg List.length hd; rw [List.length_drop] at this; simp at this; omega
        have hx : f.kids[k]? = some x := by
          have := congrArg (fun l => l[0]?) hd
          simpa using this
        have hd2 : f.kids.drop (k + 1) = xs := by rw [← List.drop_drop, hd]; rfl
        have hxm := List.mem_of_getElem? hx
        rw [alls] at ha he
        have j6 : ∀ b : Bool, ruleShape x = !b → Tr (fun m => m_spec_ParseRules_j6 m f k1.kids rs (k : Int) b) (bif alls ruleShape (f.kids.drop 2) then
      bif rulesOkB ((f.kids.drop 2).map ruleOf) k1.kids then (k1.kids, (f.kids.drop 2).map ruleOf, true) else ([], [], false)
    else ([], [], false)) := by
          intro b hb
          cases b with
          | true =>
            rw [hb, Bool.not_true, Bool.false_and] at ha
            rw [← ha]
            exact Tr.step (fun m => by rw [m_spec_ParseRules_j6, cond_true]; rfl) Tr.val
          | false =>
            rw [hb, Bool.not_false, Bool.true_and] at ha he
            have hs2 : ruleShape x = true := hb
            have hs := hs2
            unfold ruleShape at hs
            rw [Bool.and_eq_true, decide_eq_true_eq, decide_eq_true_eq] at hs
            obtain ⟨e0, _⟩ := getD_mem (l := x.kids) (k := 0) (d := form0) (by omega)
            obtain ⟨e1, _⟩ := getD_mem (l := x.kids) (k := 1) (d := form0) (by omega)
            have q0 : idx x.kids 0 = some (x.kids.getD 0 form0) := idx_nat e0
            have q1 : idx x.kids 1 = some (x.kids.getD 1 form0) := idx_nat e1
            have dr := ruleOf_dr (kid_dr hf hxm) hs2
            refine Tr.step (fun m => by rw [m_spec_ParseRules_j6, cond_false, idx_nat hx, Option.bind_some, q0, Option.bind_some]) ?_
            refine Tr.bind (l1Copy_tr _ _ (Nat.le_refl _) (by have h := dr.p.w; have h2 : (x.kids.getD 0 form0).w ≤ 2 ^ 30 := h; omega)) (Tr.eq (fun m => by rw [Option.bind_some, q1, Option.bind_some]) ?_)
            refine Tr.bind (l1Copy_tr _ _ (Nat.le_refl _) (by have h := dr.t.w; have h2 : (x.kids.getD 1 form0).w ≤ 2 ^ 30 := h; omega)) ?_
            refine Tr.chk (decide_eq_true (by simp; omega)) (Tr.eq (fun m => by rw [succN]; rfl) (ih (k + 1) (rs ++ [ruleOf x]) hd2 (by simp; omega) ha (fun h => ?_)))
            have := he h
            rw [List.map_cons] at this
            rw [List.append_assoc]
            exact this
        refine Tr.step (fun m => by rw [m_spec_ParseRules_l5, ltN hk', cond_true, idx_nat hx, Option.bind_some, Option.bind_some]) ?_
        unfold ruleShape at j6
        by_cases h3 : x.kind = 3
        · refine Tr.ff (by simpa using h3) (j6 _ ?_)
          rw [decide_eq_true h3, Bool.true_and]
          by_cases h2 : x.kids.length = 2
          · rw [decide_eq_true h2, decide_eq_false (by omega)]; rfl
          · rw [decide_eq_false h2, decide_eq_true (by omega)]; rfl
        · refine Tr.tt (by simpa using h3) (j6 true ?_)
          rw [decide_eq_false h3]; rfl
    exact key (f.kids.drop 2) 2 [] rfl (by simp) rfl (fun _ => by simp)
  have lits := drop_ind k1.kids (fun k zs => ∀ g : List Form, g ++ zs = k1.kids → g.length = k → Tr (fun m => m_spec_ParseRules_l3 m f g (k : Int)) (bif alls ruleShape (f.kids.drop 2) then
      bif rulesOkB ((f.kids.drop 2).map ruleOf) k1.kids then (k1.kids, (f.kids.drop 2).map ruleOf, true) else ([], [], false)
    else ([], [], false))) ?_ ?_ 0 (Nat.zero_le _) [] (by simp) rfl
  · exact lits
  · intro g hg _
    rw [List.append_nil] at hg
    subst hg
    exact Tr.step (fun m => by rw [m_spec_ParseRules_l3, i1, Option.bind_some, ltN_self, cond_false]) tail
  · intro k x zs hk' hx hd ih g hg hgl
    have hxm := List.mem_of_getElem? hx
    have := Form.ws_mem hxm
    refine Tr.step (fun m => by rw [m_spec_ParseRules_l3, i1, Option.bind_some, ltN hk', cond_true, Option.bind_some, idx_nat hx, Option.bind_some, succN]) ?_
    refine Tr.bind (l1Copy_tr _ x (Nat.le_refl _) (by omega)) (Tr.chk (decide_eq_true (by simp; omega)) (ih (g ++ [x]) (by rw [List.append_assoc]; exact hg) (by simp [hgl])))
end Go.Abs
end
section
set_option linter.unusedVariables false
set_option linter.unusedSimpArgs false
namespace Go.Abs
def sumW {α : Type} (W : α → Nat) : List α → Nat
  | [] => 0
  | x :: xs => W x + sumW W xs
def Bind.wt (b : Bind) : Nat := b.name.size + b.scopes.length
def Rule.wt (r : Rule) : Nat := r.pattern.wt + r.template.wt
def Macro.wt (m : Macro) : Nat := Form.wts m.literals + (m.rules.length + sumW Rule.wt m.rules)
def Expansion.wt (x : Expansion) : Nat := (x.binds.length + sumW Bind.wt x.binds) + (x.macros.length + sumW Macro.wt x.macros)
structure Rule.fit (r : Rule) : Prop where
  p : r.pattern.fit
  t : r.template.fit
structure Macro.fit (m : Macro) : Prop where
  ll : m.literals.length ≤ 9223372036854775807
  l : Form.fits m.literals
  rl : m.rules.length ≤ 9223372036854775807
  r : ∀ r ∈ m.rules, r.fit
structure Expansion.fit (x : Expansion) : Prop where
  bl : x.binds.length ≤ 9223372036854775807
  b : ∀ b ∈ x.binds, b.fit
  ml : x.macros.length ≤ 9223372036854775807
  m : ∀ m ∈ x.macros, m.fit
theorem loop_self {α : Type} {xs : List α} {L : Nat → Int → Option Bool} {E : Nat → α → α → Option Bool}
    (h0 : ∀ m k, L (m + 1) k = bif decide (k < (xs.length : Int)) then (idx xs k).bind fun a => (idx xs k).bind fun b => (E m a b).bind fun v => bif !v then some false else L m (k + 1) else some true)
    (hE : ∀ a, Tr (fun m => E m a a) true) : Tr (fun m => L m 0) true := by
  have key := drop_ind xs (fun k zs => Tr (fun m => L m (k : Int)) true) ?_ ?_ 0 (Nat.zero_le _)
  · simpa using key
  · exact Tr.step (fun m => by rw [h0, ltN_self, cond_false]) Tr.val
  · intro k x zs hk hx hd ih
    refine Tr.step (fun m => by rw [h0, ltN hk, cond_true, idx_nat hx, Option.bind_some, Option.bind_some, succN]) ?_
    refine Tr.bind (hE x) ?_
    exact Tr.ff rfl ih
theorem eqRule_self (r : Rule) : Tr (fun m => m_laws_eqRule m r r) true := by
  refine Tr.eq (fun m => by unfold m_laws_eqRule; rfl) (Tr.bind (eqForm_tr _ _) ?_)
  rw [same_self]
  refine Tr.ff rfl (Tr.bind (eqForm_tr _ _) ?_)
  rw [same_self]; exact Tr.ff rfl Tr.val
theorem eqRuleS_self (l : List Rule) : Tr (fun m => m_laws_eqRuleS m l l) true := by
  refine Tr.eq (fun m => by unfold m_laws_eqRuleS; rfl) (Tr.ff (lenE rfl) ?_)
  exact loop_self (L := fun m k => m_laws_eqRuleS_l1 m l l k) (E := fun m a b => m_laws_eqRule m a b) (fun m k => by rw [m_laws_eqRuleS_l1]) eqRule_self
end Go.Abs
end
section
set_option linter.unusedVariables false
set_option linter.unusedSimpArgs false
namespace Go.Abs
theorem fnd_any {α : Type} {D : α → Bool} {l : List α} {k : Nat} : decide (0 ≤ fnd D l k) = anys D l := by
  rw [Bool.eq_iff_iff, decide_eq_true_iff, fnd_ge, anys_iff]
theorem not_anys {α : Type} {D : α → Bool} : ∀ {l : List α}, (!anys (fun x => !D x) l) = alls D l
  | [] => rfl
  | x :: xs => by rw [anys, alls, Bool.not_or, Bool.not_not, not_anys]
theorem rulesOk_tr (rules : List Rule) (lits : List Form) (hr : ∀ r ∈ rules, r.fit ∧ r.pattern.w ≤ 2 ^ 36 ∧ r.template.w ≤ 2 ^ 36) (hl : Form.fits lits) : Tr (fun m => m_impl_rulesOk m rules lits) (rulesOkB rules lits) := by
  refine Tr.eq (fun m => by unfold m_impl_rulesOk; rfl) ?_
  unfold rulesOkB
  by_cases h9 : (rules.length : Int) ≤ 9
  case neg => rw [decide_eq_false h9, Bool.false_and, Bool.and_false]; exact Tr.ff rfl Tr.val
  rw [decide_eq_true h9, Bool.true_and]
  refine Tr.tt rfl (Tr.bind (implLit_tr lits hl) ?_)
  cases litOk lits with
  | false => rw [Bool.and_false]; exact Tr.ff rfl Tr.val
  | true =>
  rw [Bool.and_true]
  refine Tr.tt rfl (Tr.bind (v := anys (fun r => !ruleOk r lits) rules) ?_ ?_)
  · refine Tr.eq (fun m => by unfold m_slices_ContainsFunc_Rule_rulesOk_1; rfl) (Tr.bind (v := fnd (fun r => !ruleOk r lits) rules 0) ?_ (Tr.of fun m => by rw [fnd_any]))
    refine Tr.eq (fun m => by unfold m_slices_IndexFunc_Rule_rulesOk_1; rfl) ?_
    refine loop_find (L := fun m j => m_slices_IndexFunc_Rule_rulesOk_1_l1 m rules lits j) (E := fun m y => m_impl_rulesOk_1 m y lits) (fun m j => by rw [m_slices_IndexFunc_Rule_rulesOk_1_l1]) (fun y hy => ?_)
    have h := hr y hy
    exact Tr.eq (fun m => by unfold m_impl_rulesOk_1; rfl) (Tr.bind (implRuleValid_tr y lits h.1.p h.2.1 h.1.t h.2.2 hl) Tr.val)
  · rw [show (fun m => some (!anys (fun r => !ruleOk r lits) rules)) = fun (m : Nat) => some (alls (fun r => ruleOk r lits) rules) from funext fun _ => by rw [not_anys]]
    exact Tr.val
end Go.Abs
end
section
set_option linter.unusedVariables false
set_option linter.unusedSimpArgs false
namespace Go.Abs
theorem isOk_mono : ∀ (n : Nat) (f : Form), f.w ≤ n → ∀ d e, d ≤ e → f.isOk d = true → f.isOk e = true := by
  intro n
  induction n with
  | zero => intro f h; have := f.w_kids; omega
  | succ n ih =>
    intro f hf d e hde h
    have hw := f.w_kids
    rw [Form.isOk_eq] at h ⊢
    by_cases hd : d = 0
    · rw [decide_eq_true hd] at h; cases h
    rw [decide_eq_false hd, cond_false] at h
    rw [decide_eq_false (show ¬ e = 0 by omega), cond_false]
    cases h1 : decide (f.kind = 1) with
    | true => rw [h1, cond_true] at h; exact h
    | false =>
    rw [h1, cond_false] at h
    rw [cond_false]
    cases h2 : decide (f.kind = 2) with
    | true => rw [h2, cond_true] at h; exact h
    | false =>
    rw [h2, cond_false] at h
    rw [cond_false]
    simp only [Bool.and_eq_true] at h ⊢
    obtain ⟨a, b, c, k, g⟩ := h
    refine ⟨a, b, c, k, ?_⟩
    rw [alls_iff] at g ⊢
    exact fun x hx => ih x (by have := Form.ws_mem hx; omega) (d - 1) (e - 1) (by omega) (g x hx)
theorem cnts_mem : ∀ {l : List Form} {x : Form}, x ∈ l → x.cnt ≤ Form.cnts l
  | y :: ys, x, h => by
    rw [Form.cnts]
    rcases List.mem_cons.1 h with rfl | h
    · omega
    · have := cnts_mem h; omega
theorem valid_kid {f x : Form} (h : f.valid = true) (hx : x ∈ f.kids) : x.valid = true := by
  unfold Form.valid at h ⊢
  rw [Bool.and_eq_true, decide_eq_true_eq] at h ⊢
  have := (isOk_kids h.1).2 x hx
  have h2 := cnts_mem hx
  have h3 := f.cnt_eq
  exact ⟨isOk_mono _ x (Nat.le_refl _) (40 - 1) 40 (by omega) this, by omega⟩
def HitD : Nat → Hit → Prop
  | 0, h => h.depth = 0 ∧ h.one.valid = true ∧ h.many = []
  | d + 1, h => h.depth = (d : Int) + 1 ∧ h.one = form0 ∧ h.many.length ≤ 400 ∧ ∀ x ∈ h.many, x.name = h.name ∧ HitD d x
def nameG (f : Form) : Bool := isNm f && (!decide (f.name = dotsN) && !decide (f.name = underN))
theorem HitD.depth {d : Nat} {h : Hit} (hd : HitD d h) : h.depth = (d : Int) := by
  cases d with
  | zero => exact hd.1
  | succ d => rw [hd.1]; omega
theorem HitD.isOk : ∀ (d : Nat) (h : Hit), d ≤ 3 → HitD d h → nameG h.name = true → h.isOk = true
  | 0, h, hd, hh, hn => by
    obtain ⟨h1, h2, h3⟩ := hh
    unfold nameG at hn
    simp only [Bool.and_eq_true] at hn
    rw [Hit.isOk_eq, hn.1, hn.2.1, hn.2.2, h1, h2, h3]; rfl
  | d + 1, h, hd, hh, hn => by
    obtain ⟨h1, h2, h3, h4⟩ := hh
    have hn0 := hn
    unfold nameG at hn
    simp only [Bool.and_eq_true] at hn
    rw [Hit.isOk_eq, hn.1, hn.2.1, hn.2.2, h1, h2, same_self, decide_eq_false (show ¬ (d : Int) + 1 = 0 by omega), decide_eq_true (show (0 : Int) ≤ (d : Int) + 1 by omega), decide_eq_true (show (d : Int) + 1 ≤ 3 by omega), decide_eq_true (show (h.many.length : Int) ≤ 400 by omega)]
    simp only [Bool.true_and, cond_false]
    rw [alls_iff]
    intro x hx
    obtain ⟨e1, e2⟩ := h4 x hx
    rw [e1, same_self, e2.depth, decide_eq_true (show (d : Int) = (d : Int) + 1 - 1 by omega), HitD.isOk d x (by omega) e2 (by rw [e1]; exact hn0)]
    rfl
end Go.Abs
end
section
set_option linter.unusedVariables false
set_option linter.unusedSimpArgs false
namespace Go.Abs
theorem kind_of_name {x : Form} (h : x.valid = true) (hn : x.name ≠ (⟨#[]⟩ : ByteArray)) : x.kind = 1 := by
  unfold Form.valid at h
  rw [Bool.and_eq_true, Form.isOk_eq] at h
  by_cases h1 : x.kind = 1
  · exact h1
  exfalso
  have := h.1
  rw [decide_eq_false h1, decide_eq_false hn] at this
  simp at this
theorem sub_drop {α : Type} {l : List α} {k : Nat} (h : k ≤ l.length) : sub l (k : Int) (l.length : Int) = some (l.drop k) := by
  unfold sub
  rw [show (decide ((0 : Int) ≤ (k : Int)) && decide ((k : Int) ≤ l.length) && decide ((l.length : Int) ≤ l.length)) = true by simp; omega, cond_true]
  simp
theorem implParseRules_tr (f : Form) (hf : Dr (2 ^ 30) f) : Tr (fun m => m_impl_ParseRules m f) (parseR f) := by
  have hw := f.w_kids
  have hfw := hf.w
  have hfl := Form.ws_len f.kids
  refine Tr.eq (fun m => by unfold m_impl_ParseRules; rfl) (Tr.bind (implFormValid_tr f hf.fit) ?_)
  have no : Tr (fun m => m_impl_ParseRules_j1 m f true) (([] : List Form), ([] : List Rule), false) := Tr.step (fun m => by rw [m_impl_ParseRules_j1]; rfl) Tr.val
  unfold parseR isRules
  cases hfv : f.valid with
  | false => exact Tr.tt rfl no
  | true =>
  refine Tr.ff rfl ?_
  by_cases h3 : f.kind = 3
  case neg => rw [decide_eq_false h3]; exact Tr.tt (by simpa using h3) no
  rw [decide_eq_true h3]
  refine Tr.ff (by simpa using h3) ?_
  by_cases h2 : 2 ≤ f.kids.length
  case neg => rw [decide_eq_false h2]; exact Tr.tt (decide_eq_true (by omega)) no
  rw [decide_eq_true h2]
  obtain ⟨g0, m0⟩ := getD_mem (l := f.kids) (k := 0) (d := form0) (by omega)
  obtain ⟨g1, m1⟩ := getD_mem (l := f.kids) (k := 1) (d := form0) (by omega)
  generalize hk0 : f.kids.getD 0 form0 = k0 at g0 m0
  generalize hk1 : f.kids.getD 1 form0 = k1 at g1 m1
  have i0 : idx f.kids 0 = some k0 := idx_nat g0
  have i1 : idx f.kids 1 = some k1 := idx_nat g1
  refine Tr.ff (decide_eq_false (by omega)) (Tr.eq (fun m => by rw [i0, Option.bind_some]) ?_)
  refine Tr.bind (named_tr _ _) ?_
  have hkn : (decide (k0.kind = 1) && decide (k0.name = rulesN)) = decide (k0.name = rulesN) := by
    by_cases hn : k0.name = rulesN
    · rw [decide_eq_true (kind_of_name (valid_kid hfv m0) (by rw [hn]; decide)), Bool.true_and]
    · rw [decide_eq_false hn, Bool.and_false]
  show Tr (fun m => bif !(decide (k0.kind = 1) && decide (k0.name = rulesN)) then _ else _) _
  rw [hkn]
  by_cases hn : k0.name = rulesN
  case neg => rw [decide_eq_false hn]; exact Tr.tt rfl no
  rw [decide_eq_true hn]
  refine Tr.ff rfl (Tr.eq (fun m => by rw [i1, Option.bind_some]) ?_)
  by_cases hk : k1.kind = 3
  case neg => rw [decide_eq_false hk]; exact Tr.eq (fun m => by rw [decide_eq_true (show k1.kind ≠ 3 from hk)]) no
  rw [decide_eq_true hk]
  refine Tr.step (fun m => by rw [m_impl_ParseRules_j1, decide_eq_false (show ¬ k1.kind ≠ 3 by simp [hk]), cond_false, i1, Option.bind_some]) ?_
  rw [Bool.and_true, Bool.and_true, Bool.and_true, Bool.and_true, cond_true]
  have d1 := kid_dr hf m1
  have d1w := d1.w
  have k1w := k1.w_kids
  have k1l := Form.ws_len k1.kids
  have hdl : (f.kids.drop 2).length + 2 = f.kids.length := by rw [List.length_drop]; omega
  -- what comes behind the literals
  have tail : Tr (fun m => m_impl_ParseRules_j2 m f k1.kids) (bif alls ruleShape (f.kids.drop 2) then
      bif rulesOkB ((f.kids.drop 2).map ruleOf) k1.kids then (k1.kids, (f.kids.drop 2).map ruleOf, true) else ([], [], false)
    else ([], [], false)) := by
    refine Tr.step (fun m => by rw [m_impl_ParseRules_j2, show (2 : Int) = ((2 : Nat) : Int) from rfl, sub_drop h2, Option.bind_some]) ?_
    have hmem : ∀ x ∈ f.kids.drop 2, x ∈ f.kids := fun x hx => List.mem_of_mem_drop hx
    generalize f.kids.drop 2 = L at hdl hmem
    have key := drop_ind L (fun k zs => ∀ rs : List Rule, rs.length = k → alls ruleShape zs = alls ruleShape L → (alls ruleShape zs = true → rs ++ zs.map ruleOf = L.map ruleOf) → Tr (fun m => m_impl_ParseRules_l5 m k1.kids L rs (k : Int)) (bif alls ruleShape L then
      bif rulesOkB (L.map ruleOf) k1.kids then (k1.kids, L.map ruleOf, true) else ([], [], false)
    else ([], [], false))) ?_ ?_ 0 (Nat.zero_le _) [] rfl (by simp) (fun _ => by simp)
    · exact key
    · intro rs hr ha he
      rw [← ha]
      have he2 := he rfl
      rw [List.map_nil, List.append_nil] at he2
      rw [alls, cond_true]
      refine Tr.step (fun m => by rw [m_impl_ParseRules_l5, ltN_self, cond_false]) (Tr.step (fun m => by rw [m_impl_ParseRules_j4]) ?_)
      rw [he2]
      have hall : alls ruleShape L = true := by rw [← ha]; rfl
      refine Tr.bind (rulesOk_tr _ k1.kids (fun r hr => ?_) d1.fit.parts.2.2.2) ?_
      · obtain ⟨x, hx, rfl⟩ := List.mem_map.1 hr
        have := ruleOf_dr (kid_dr hf (hmem x hx)) (alls_iff.1 hall x hx)
        exact ⟨⟨this.p.fit, this.t.fit⟩, by have := this.p.w; omega, by have := this.t.w; omega⟩
      · cases rulesOkB (L.map ruleOf) k1.kids with
        | false => exact Tr.tt rfl Tr.val
        | true => exact Tr.ff rfl Tr.val
    · intro k x zs hk' hx hd ih rs hr ha he
      have hxm := hmem x (List.mem_of_getElem? hx)
      rw [alls] at ha he
      have j6 : ∀ b : Bool, ruleShape x = !b → Tr (fun m => m_impl_ParseRules_j6 m k1.kids L rs (k : Int) x b) (bif alls ruleShape L then
      bif rulesOkB (L.map ruleOf) k1.kids then (k1.kids, L.map ruleOf, true) else ([], [], false)
    else ([], [], false)) := by
        intro b hb
        cases b with
        | true =>
          rw [hb, Bool.not_true, Bool.false_and] at ha
          rw [← ha]
          exact Tr.step (fun m => by rw [m_impl_ParseRules_j6, cond_true]; rfl) Tr.val
        | false =>
          rw [hb, Bool.not_false, Bool.true_and] at ha he
          have hs2 : ruleShape x = true := hb
          have hs := hs2
          unfold ruleShape at hs
          rw [Bool.and_eq_true, decide_eq_true_eq, decide_eq_true_eq] at hs
          obtain ⟨e0, _⟩ := getD_mem (l := x.kids) (k := 0) (d := form0) (by omega)
          obtain ⟨e1, _⟩ := getD_mem (l := x.kids) (k := 1) (d := form0) (by omega)
          have q0 : idx x.kids 0 = some (x.kids.getD 0 form0) := idx_nat e0
          have q1 : idx x.kids 1 = some (x.kids.getD 1 form0) := idx_nat e1
          have dr := ruleOf_dr (kid_dr hf hxm) hs2
          refine Tr.step (fun m => by rw [m_impl_ParseRules_j6, cond_false, q0, Option.bind_some]) ?_
          refine Tr.bind (copyForm_tr _ (by have h := dr.p.w; have h2 : (x.kids.getD 0 form0).w ≤ 2 ^ 30 := h; omega)) (Tr.eq (fun m => by rw [q1, Option.bind_some]) ?_)
          refine Tr.bind (copyForm_tr _ (by have h := dr.t.w; have h2 : (x.kids.getD 1 form0).w ≤ 2 ^ 30 := h; omega)) ?_
          refine Tr.chk (decide_eq_true (by simp; omega)) (Tr.eq (fun m => by rw [succN]; rfl) (ih (rs ++ [ruleOf x]) (by simp [hr]) ha (fun h => ?_)))
          have := he h
          rw [List.map_cons] at this
          rw [List.append_assoc]
          exact this
      refine Tr.step (fun m => by rw [m_impl_ParseRules_l5, ltN hk', cond_true, idx_nat hx, Option.bind_some]) ?_
      unfold ruleShape at j6
      by_cases h3 : x.kind = 3
      · refine Tr.ff (by simpa using h3) (j6 _ ?_)
        rw [decide_eq_true h3, Bool.true_and]
        by_cases h2 : x.kids.length = 2
        · rw [decide_eq_true h2, decide_eq_false (by omega)]; rfl
        · rw [decide_eq_false h2, decide_eq_true (by omega)]; rfl
      · refine Tr.tt (by simpa using h3) (j6 true ?_)
        rw [decide_eq_false h3]; rfl
  have lits := drop_ind k1.kids (fun k zs => ∀ g : List Form, g ++ zs = k1.kids → g.length = k → Tr (fun m => m_impl_ParseRules_l3 m f k1 g (k : Int)) (bif alls ruleShape (f.kids.drop 2) then
      bif rulesOkB ((f.kids.drop 2).map ruleOf) k1.kids then (k1.kids, (f.kids.drop 2).map ruleOf, true) else ([], [], false)
    else ([], [], false))) ?_ ?_ 0 (Nat.zero_le _) [] (by simp) rfl
  · exact lits
  · intro g hg _
    rw [List.append_nil] at hg
    subst hg
    exact Tr.step (fun m => by rw [m_impl_ParseRules_l3, ltN_self, cond_false]) tail
  · intro k x zs hk' hx hd ih g hg hgl
    have hxm := List.mem_of_getElem? hx
    have := Form.ws_mem hxm
    refine Tr.step (fun m => by rw [m_impl_ParseRules_l3, ltN hk', cond_true, idx_nat hx, Option.bind_some, succN]) ?_
    refine Tr.bind (copyForm_tr x (by omega)) (Tr.chk (decide_eq_true (by simp; omega)) (ih (g ++ [x]) (by rw [List.append_assoc]; exact hg) (by simp [hgl])))
end Go.Abs
end
section
set_option linter.unusedVariables false
set_option linter.unusedSimpArgs false
namespace Go.Abs
def oR (o : Option (List Hit)) : List Hit × Bool := (o.getD [], o.isSome)
structure MatS (bs : List Bind) (lits : List Form) (P F : Form) : Prop where
  kid : ∀ x ∈ P.kids, KidS x
  ih : ∀ x ∈ P.kids, isDots x = false → ∀ f ∈ F.kids, Tr (fun m => m_impl_match m bs x lits f) (oR (x.mt bs lits f))
  wp : Form.ws P.kids ≤ 2 ^ 17
  wf : Form.ws F.kids ≤ 2 ^ 17
section
variable {bs : List Bind} {lits : List Form} {P F : Form}
structure RowS (P F : Form) (xs : List Form) (pr dd : Form) (tail : List Form) : Prop where
  eq : P.kids = xs ++ pr :: dd :: tail
  pre : ∀ x ∈ xs, isDots x = false
  row : isDots pr = false
  dots : isDots dd = true
  post : ∀ x ∈ tail, isDots x = false
  len : xs.length + tail.length ≤ F.kids.length
def RowS.many (F : Form) (xs tail : List Form) : Nat := F.kids.length - (xs.length + tail.length)
variable {xs tail : List Form} {pr dd : Form}
theorem RowS.plen (hR : RowS P F xs pr dd tail) : P.kids.length = xs.length + 2 + tail.length := by rw [hR.eq]; simp; omega
theorem RowS.lens (hS : MatS bs lits P F) (hR : RowS P F xs pr dd tail) : P.kids.length ≤ 2 ^ 17 ∧ F.kids.length ≤ 2 ^ 17 := ⟨Nat.le_trans (Form.ws_len _) hS.wp, Nat.le_trans (Form.ws_len _) hS.wf⟩
theorem RowS.row_eq (hS : MatS bs lits P F) (hR : RowS P F xs pr dd tail) : w64 ((((xs.length + 1 : Nat) : Int)) - 1) = ((xs.length : Nat) : Int) := by
  have h1 := RowS.lens hS hR
  have h2 := hR.plen
  rw [w64_in (by omega)]; omega
end
end Go.Abs
end
section
set_option linter.unusedVariables false
set_option linter.unusedSimpArgs false
namespace Go.Abs
theorem PatS.kind {p : Form} (h : PatS p) (h1 : ¬ p.kind = 1) (h2 : ¬ p.kind = 2) : p.kind = 3 := by
  obtain ⟨d, hd⟩ := h.ok
  rw [Form.isOk_eq] at hd
  cases hd0 : decide (d = 0) with
  | true => rw [hd0] at hd; cases hd
  | false =>
    rw [hd0, cond_false, decide_eq_false h1, cond_false, decide_eq_false h2, cond_false, Bool.and_eq_true, decide_eq_true_eq] at hd
    exact hd.1
theorem cnt_eq (f : Form) : f.cnt = 1 + Form.cnts f.kids := by obtain ⟨a, b, c, d, e⟩ := f; rw [Form.cnt]; rfl
end Go.Abs
end
section
set_option linter.unusedVariables false
set_option linter.unusedSimpArgs false
namespace Go.Abs
theorem eqForm_self (f : Form) : Tr (fun m => m_laws_eqForm m f f) true := by have := eqForm_tr f f; rwa [same_self] at this
theorem eqFormS_self (l : List Form) : Tr (fun m => m_laws_eqFormS m l l) true := by have := eqFormS_tr l l; rwa [same_self] at this
end Go.Abs
end
section
set_option linter.unusedVariables false
set_option linter.unusedSimpArgs false
set_option maxHeartbeats 4000000
namespace Go.Abs
section
variable {α : Type}
theorem mk_lt_mid (d : List α) (x : α) (xs : List α) : decide ((d.length : Int) < ((d ++ x :: xs).length : Int)) = true := by simp; omega
theorem mk_lt_end (d : List α) : decide ((d.length : Int) < ((d ++ []).length : Int)) = false := by simp
theorem mk_idx_mid (d : List α) (x : α) (xs : List α) : idx (d ++ x :: xs) (d.length : Int) = some x := idx_nat (by simp)
theorem mk_set_mid (d : List α) (x y : α) (xs : List α) : (d ++ x :: xs).set ((d.length : Int)).toNat y = d ++ y :: xs := by simp
theorem mk_mid_app (d : List α) (y : α) (xs : List α) : d ++ y :: xs = (d ++ [y]) ++ xs := by simp
theorem mk_mid_len (d : List α) (y : α) : (d.length : Int) + 1 = ((d ++ [y]).length : Int) := by simp
theorem mk_mid_lenw (d : List α) (y : α) (h : d.length ≤ 4611686018427387904) : w64 ((d.length : Int) + 1) = ((d ++ [y]).length : Int) := by
  rw [w64_in (by omega)]; simp
end
theorem mk_wIn {k : Int} (h0 : 0 ≤ k) (h1 : k ≤ 4611686018427387904) : w64 (k + 1) = k + 1 := w64_in (by omega)
theorem mk_ne_self_f {α : Type} [DecidableEq α] (x : α) : decide (x ≠ x) = false := by simp
theorem mk_not_neg {k : Int} (h : 0 ≤ k) : decide (k < 0) = false := by simpa using h
theorem markText_loop : ∀ (n : Nat) (k : Nat) (s : ByteArray), k < 2 ^ n → s.size + n ≤ 1000 → n ≤ 63 → ∃ t, Tr (fun m => m_laws_markText_l1 m (k : Int) s) t := by
  intro n
  induction n with
  | zero =>
    intro k s hk hs hn
    have : k = 0 := by omega
    subst this
    refine ⟨(⟨#[109]⟩ : ByteArray) ++ s, Tr.step (fun m => by rw [m_laws_markText_l1, show decide ((0 : Int) < ((0 : Nat) : Int)) = false from rfl, cond_false]) (Tr.of fun m => ?_)⟩
    · rw [bcat, decide_eq_true (by have : (⟨#[109]⟩ : ByteArray).size = 1 := rfl; omega)]; rfl
  | succ n ih =>
    intro k s hk hs hn
    by_cases h0 : k = 0
    · subst h0
      refine ⟨(⟨#[109]⟩ : ByteArray) ++ s, Tr.step (fun m => by rw [m_laws_markText_l1, show decide ((0 : Int) < ((0 : Nat) : Int)) = false from rfl, cond_false]) (Tr.of fun m => ?_)⟩
      · rw [bcat, decide_eq_true (by have : (⟨#[109]⟩ : ByteArray).size = 1 := rfl; omega)]; rfl
    · have hk2 : k / 10 < 2 ^ n := by rw [Nat.pow_succ] at hk; omega
      have hp : (2 : Nat) ^ (n + 1) ≤ 2 ^ 63 := Nat.pow_le_pow_right (by omega) (by omega)
      have hsz : (strOf [(w8 (w64 (48 + ((k : Int).tmod 10))))]).size = 1 := rfl
      have hsz2 : (strOf [(w8 (w64 (48 + ((k : Int).tmod 10))))] ++ s).size = 1 + s.size := by rw [ByteArray.size_append, hsz]
      obtain ⟨t, ht⟩ := ih (k / 10) (strOf [(w8 (w64 (48 + ((k : Int).tmod 10))))] ++ s) hk2 (by rw [hsz2]; omega) (by omega)
      refine ⟨t, Tr.step (fun m => by rw [m_laws_markText_l1, decide_eq_true (show (0 : Int) < (k : Int) by omega), cond_true, bcat, decide_eq_true (by rw [hsz]; omega), cond_true, Option.bind_some]) ?_⟩
      refine Tr.eq (fun m => ?_) ht
      have : w64 ((k : Int).tdiv 10) = ((k / 10 : Nat) : Int) := by
        rw [show ((k : Int).tdiv 10) = ((k / 10 : Nat) : Int) from rfl, w64_in (by omega)]
      rw [this]
theorem markText_tr {k : Int} (h0 : 0 ≤ k) (h1 : k ≤ 4611686018427387905) : ∃ t, Tr (fun m => m_laws_markText m k) t := by
  by_cases hk : k ≤ 0
  · exact ⟨_, Tr.of fun m => by rw [m_laws_markText, decide_eq_true hk]; rfl⟩
  · obtain ⟨n, rfl⟩ := Int.eq_ofNat_of_zero_le h0
    obtain ⟨t, ht⟩ := markText_loop 63 n ⟨#[]⟩ (by omega) (by decide) (Nat.le_refl _)
    exact ⟨t, Tr.eq (fun m => by rw [m_laws_markText, decide_eq_false hk, cond_false]) ht⟩
def MH {α : Type} (M : Nat → List α → Int → Option (Int × List α)) (H : Nat → List α → Int → Option Int) (l : List α) (b : Nat) : Prop :=
  ∀ k : Int, 0 ≤ k → k + b ≤ 4611686018427387904 → ∃ v ys, Tr (fun m => M m l k) (v, ys) ∧ k ≤ v ∧ v ≤ k + b ∧ Tr (fun m => H m ys k) v
theorem markInt_loop : ∀ (xs d : List Int) (k : Int), 0 ≤ k → k + xs.length ≤ 4611686018427387904 → ∃ v ys, Tr (fun m => m_laws_markIntS_l1 m k (d.length : Int) (d ++ xs)) (v, d ++ ys) ∧ k ≤ v ∧ v ≤ k + xs.length ∧ ∀ d' : List Int, Tr (fun m => m_laws_heldIntS_l1 m (d' ++ ys) k (d'.length : Int)) v
  | [], d, k, h0, h1 => ⟨k, [], Tr.step (fun m => by rw [m_laws_markIntS_l1, mk_lt_end, cond_false]) Tr.val, Int.le_refl _, by omega, fun d' => Tr.step (fun m => by rw [m_laws_heldIntS_l1, mk_lt_end, cond_false]) Tr.val⟩
  | x :: xs, d, k, h0, h1 => by
    rw [List.length_cons] at h1
    obtain ⟨v, ys, a1, a2, a3, a4⟩ := markInt_loop xs (d ++ [k]) (k + 1) (by omega) (by omega)
    refine ⟨v, k :: ys, ?_, by omega, by rw [List.length_cons]; omega, fun d' => ?_⟩
    · refine Tr.step (fun m => by rw [m_laws_markIntS_l1, mk_lt_mid, cond_true, mk_idx_mid, Option.bind_some, mk_set_mid]) ?_
      refine Tr.eq (fun m => ?_) (mk_mid_app d k ys ▸ a1)
      rw [mk_wIn h0 (by omega), mk_mid_len d k, mk_mid_app d k xs]
    · refine Tr.step (fun m => by rw [m_laws_heldIntS_l1, mk_lt_mid, cond_true, mk_idx_mid, Option.bind_some, mk_ne_self_f, cond_false]) ?_
      refine Tr.eq (fun m => ?_) (a4 (d' ++ [k]))
      rw [mk_wIn h0 (by omega), mk_mid_len d' k, mk_mid_app d' k ys]
theorem mhInt (l : List Int) : MH m_laws_markIntS m_laws_heldIntS l l.length := fun k h0 h1 => by
  obtain ⟨v, ys, a1, a2, a3, a4⟩ := markInt_loop l [] k h0 h1
  exact ⟨v, ys, Tr.eq (fun m => by unfold m_laws_markIntS; rfl) a1, a2, a3, Tr.eq (fun m => by unfold m_laws_heldIntS; rfl) (a4 [])⟩
theorem markForm_loop : ∀ (xs d : List Form) (k : Int), (∀ x ∈ xs, MH m_laws_markFormS m_laws_heldFormS x.kids (3 * Form.ws x.kids)) → d.length + xs.length ≤ 4611686018427387904 → 0 ≤ k → k + (3 * Form.ws xs : Nat) ≤ 4611686018427387904 →
    ∃ v ys, Tr (fun m => m_laws_markFormS_l1 m k (d.length : Int) (d ++ xs)) (v, d ++ ys) ∧ k ≤ v ∧ v ≤ k + (3 * Form.ws xs : Nat) ∧ ∀ d' : List Form, Tr (fun m => m_laws_heldFormS_l1 m (d' ++ ys) k (d'.length : Int)) v
  | [], d, k, ih, hl, h0, h1 => ⟨k, [], Tr.step (fun m => by rw [m_laws_markFormS_l1, mk_lt_end, cond_false]) Tr.val, Int.le_refl _, by omega, fun d' => Tr.step (fun m => by rw [m_laws_heldFormS_l1, mk_lt_end, cond_false]) Tr.val⟩
  | .mk kd nm nn sc ks :: xs, d, k, ih, hl, h0, h1 => by
    rw [Form.ws, Form.w] at h1
    rw [List.length_cons] at hl
    obtain ⟨t, ht⟩ := markText_tr (k := k + 1) (by omega) (by omega)
    obtain ⟨v1, a, b1, b2, b3, b4⟩ := mhInt sc (k + 1 + 1 + 1) (by omega) (by omega)
    obtain ⟨v2, b, c1, c2, c3, c4⟩ := ih _ (List.mem_cons_self ..) v1 (by omega) (by show v1 + (3 * Form.ws ks : Nat) ≤ _; omega)
    have c3' : v2 ≤ v1 + (3 * Form.ws ks : Nat) := c3
    obtain ⟨v, ys, a1, a2, a3, a4⟩ := markForm_loop xs (d ++ [.mk k t (k + 1 + 1) a b]) v2 (fun x hx => ih x (List.mem_cons_of_mem _ hx)) (by simp; omega) (by omega) (by omega)
    have e1 := mk_wIn h0 (by omega)
    have e2 := mk_wIn (k := k + 1) (by omega) (by omega)
    have e3 := mk_wIn (k := k + 1 + 1) (by omega) (by omega)
    refine ⟨v, .mk k t (k + 1 + 1) a b :: ys, ?_, by omega, by rw [Form.ws, Form.w]; omega, fun d' => ?_⟩
    · refine Tr.step (fun m => by rewrite [m_laws_markFormS_l1]; simp only [Form.kind, Form.name, Form.n, Form.scopes, Form.kids, mk_lt_mid, cond_true, mk_idx_mid, Option.bind_some, mk_set_mid, e1, e2, e3]; rfl) ?_
      refine Tr.bind ht ?_
      refine Tr.bind b1 ?_
      refine Tr.bind c1 ?_
      refine Tr.eq (fun m => ?_) (mk_mid_app d (.mk k t (k + 1 + 1) a b) ys ▸ a1)
      rw [← mk_mid_app, ← mk_mid_lenw _ _ (by omega)]
    · refine Tr.step (fun m => by rewrite [m_laws_heldFormS_l1]; simp only [Form.kind, Form.name, Form.n, Form.scopes, Form.kids, mk_lt_mid, cond_true, mk_idx_mid, Option.bind_some, e1, e2, e3]; rfl) ?_
      refine Tr.ff (mk_ne_self_f k) ?_
      refine Tr.bind ht (Tr.ff (mk_ne_self_f t) (Tr.ff (mk_ne_self_f (k + 1 + 1)) ?_))
      refine Tr.bind b4 (Tr.ff (mk_not_neg (by omega)) ?_)
      refine Tr.bind c4 (Tr.ff (mk_not_neg (by omega)) ?_)
      refine Tr.eq (fun m => ?_) (a4 (d' ++ [.mk k t (k + 1 + 1) a b]))
      rw [← mk_mid_app, ← mk_mid_len]
theorem mhForm_n : ∀ (n : Nat) (l : List Form), Form.ws l ≤ n → MH m_laws_markFormS m_laws_heldFormS l (3 * Form.ws l) := by
  intro n
  induction n with
  | zero =>
    intro l hl k h0 h1
    have hx := Form.ws_len l
    have : l = [] := List.eq_nil_of_length_eq_zero (by omega)
    subst this
    obtain ⟨v, ys, a1, a2, a3, a4⟩ := markForm_loop [] [] k (fun x hx => by cases hx) (by simp) h0 h1
    exact ⟨v, ys, Tr.step (fun m => by rw [m_laws_markFormS]; rfl) a1, a2, a3, Tr.step (fun m => by rw [m_laws_heldFormS]; rfl) (a4 [])⟩
  | succ n ih =>
    intro l hl k h0 h1
    have hx := Form.ws_len l
    obtain ⟨v, ys, a1, a2, a3, a4⟩ := markForm_loop l [] k (fun x hx => ih _ (by
      have := Form.ws_mem hx
      obtain ⟨p1, p2, p3, p4, p5⟩ := x
      rw [Form.w] at this
      show Form.ws p5 ≤ n
      omega)) (by simp only [List.length_nil]; omega) h0 h1
    exact ⟨v, ys, Tr.step (fun m => by rw [m_laws_markFormS]; rfl) a1, a2, a3, Tr.step (fun m => by rw [m_laws_heldFormS]; rfl) (a4 [])⟩
theorem mhForms (l : List Form) : MH m_laws_markFormS m_laws_heldFormS l (3 * Form.ws l) := mhForm_n _ l (Nat.le_refl _)
theorem mhForm (f : Form) (k : Int) (h0 : 0 ≤ k) (h1 : k + (3 * f.w : Nat) ≤ 4611686018427387904) : ∃ v a b, Tr (fun m => m_laws_markForm m f k) (v, a, b) ∧ k ≤ v ∧ v ≤ k + (3 * f.w : Nat) ∧ ∀ kd nm nn, Tr (fun m => m_laws_heldForm m (.mk kd nm nn a b) k) v := by
  obtain ⟨p1, p2, p3, p4, p5⟩ := f
  rw [Form.w] at h1 ⊢
  obtain ⟨v1, a, b1, b2, b3, b4⟩ := mhInt p4 k h0 (by omega)
  obtain ⟨v2, b, c1, c2, c3, c4⟩ := mhForms p5 v1 (by omega) (by omega)
  refine ⟨v2, a, b, ?_, by omega, by omega, fun kd nm nn => ?_⟩
  · refine Tr.eq (fun m => by unfold m_laws_markForm; rfl) ?_
    exact Tr.bind b1 (Tr.bind c1 Tr.val)
  · refine Tr.eq (fun m => by unfold m_laws_heldForm; rfl) ?_
    refine Tr.bind b4 (Tr.ff (mk_not_neg (by omega)) ?_)
    refine Tr.bind c4 (Tr.ff (mk_not_neg (by omega)) Tr.val)
def Rule.mws : List Rule → Nat
  | [] => 0
  | r :: rs => 1 + r.pattern.w + r.template.w + Rule.mws rs
theorem Rule.mws_len : ∀ l : List Rule, l.length ≤ Rule.mws l
  | [] => Nat.le_refl _
  | r :: rs => by have := Rule.mws_len rs; rw [Rule.mws, List.length_cons]; omega
theorem markRule_loop : ∀ (xs d : List Rule) (k : Int), d.length + xs.length ≤ 4611686018427387904 → 0 ≤ k → k + (3 * Rule.mws xs : Nat) ≤ 4611686018427387904 →
    ∃ v ys, Tr (fun m => m_laws_markRuleS_l1 m k (d.length : Int) (d ++ xs)) (v, d ++ ys) ∧ k ≤ v ∧ v ≤ k + (3 * Rule.mws xs : Nat) ∧ ∀ d' : List Rule, Tr (fun m => m_laws_heldRuleS_l1 m (d' ++ ys) k (d'.length : Int)) v
  | [], d, k, hl, h0, h1 => ⟨k, [], Tr.step (fun m => by rw [m_laws_markRuleS_l1, mk_lt_end, cond_false]) Tr.val, Int.le_refl _, by omega, fun d' => Tr.step (fun m => by rw [m_laws_heldRuleS_l1, mk_lt_end, cond_false]) Tr.val⟩
  | .mk (.mk kd nm nn sc ks) (.mk kd' nm' nn' sc' ks') :: xs, d, k, hl, h0, h1 => by
    rw [Rule.mws, Rule.pattern, Rule.template, Form.w, Form.w] at h1
    rw [List.length_cons] at hl
    obtain ⟨t, ht⟩ := markText_tr (k := k + 1) (by omega) (by omega)
    obtain ⟨v1, a, b1, b2, b3, b4⟩ := mhInt sc (k + 1 + 1 + 1) (by omega) (by omega)
    obtain ⟨v2, b, c1, c2, c3, c4⟩ := mhForms ks v1 (by omega) (by omega)
    obtain ⟨t', ht'⟩ := markText_tr (k := v2 + 1) (by omega) (by omega)
    obtain ⟨v3, a', d1, d2, d3, d4⟩ := mhInt sc' (v2 + 1 + 1 + 1) (by omega) (by omega)
    obtain ⟨v5, b', e1, e2, e3, e4⟩ := mhForms ks' v3 (by omega) (by omega)
    obtain ⟨v, ys, a1, a2, a3, a4⟩ := markRule_loop xs (d ++ [.mk (.mk k t (k + 1 + 1) a b) (.mk v2 t' (v2 + 1 + 1) a' b')]) v5 (by simp; omega) (by omega) (by omega)
    have w1 := mk_wIn h0 (by omega)
    have w2 := mk_wIn (k := k + 1) (by omega) (by omega)
    have w3 := mk_wIn (k := k + 1 + 1) (by omega) (by omega)
    have w4 := mk_wIn (k := v2) (by omega) (by omega)
    have w5 := mk_wIn (k := v2 + 1) (by omega) (by omega)
    have w6 := mk_wIn (k := v2 + 1 + 1) (by omega) (by omega)
    refine ⟨v, .mk (.mk k t (k + 1 + 1) a b) (.mk v2 t' (v2 + 1 + 1) a' b') :: ys, ?_, by omega, by rw [Rule.mws, Rule.pattern, Rule.template, Form.w, Form.w]; omega, fun d' => ?_⟩
    · refine Tr.step (fun m => by rewrite [m_laws_markRuleS_l1]; simp only [Form.kind, Form.name, Form.n, Form.scopes, Form.kids, Rule.pattern, Rule.template, mk_lt_mid, cond_true, mk_idx_mid, Option.bind_some, mk_set_mid, w1, w2, w3]; rfl) ?_
      refine Tr.bind ht (Tr.bind b1 (Tr.bind c1 ?_))
      refine Tr.eq (fun m => by simp only [w4, w5, w6]; rfl) (Tr.bind ht' ?_)
      refine Tr.bind d1 (Tr.bind e1 ?_)
      refine Tr.eq (fun m => ?_) (mk_mid_app d (.mk (.mk k t (k + 1 + 1) a b) (.mk v2 t' (v2 + 1 + 1) a' b')) ys ▸ a1)
      rw [← mk_mid_app, ← mk_mid_lenw _ _ (by omega)]
    · refine Tr.step (fun m => by rewrite [m_laws_heldRuleS_l1]; simp only [Form.kind, Form.name, Form.n, Form.scopes, Form.kids, Rule.pattern, Rule.template, mk_lt_mid, cond_true, mk_idx_mid, Option.bind_some, w1, w2, w3]; rfl) ?_
      refine Tr.ff (mk_ne_self_f k) ?_
      refine Tr.bind ht (Tr.ff (mk_ne_self_f t) (Tr.ff (mk_ne_self_f (k + 1 + 1)) ?_))
      refine Tr.bind b4 (Tr.ff (mk_not_neg (by omega)) ?_)
      refine Tr.bind c4 (Tr.ff (mk_not_neg (by omega)) ?_)
      refine Tr.eq (fun m => by simp only [w4, w5, w6]; rfl) ?_
      refine Tr.ff (mk_ne_self_f v2) ?_
      refine Tr.bind ht' (Tr.ff (mk_ne_self_f t') (Tr.ff (mk_ne_self_f (v2 + 1 + 1)) ?_))
      refine Tr.bind d4 (Tr.ff (mk_not_neg (by omega)) ?_)
      refine Tr.bind e4 (Tr.ff (mk_not_neg (by omega)) ?_)
      refine Tr.eq (fun m => ?_) (a4 (d' ++ [.mk (.mk k t (k + 1 + 1) a b) (.mk v2 t' (v2 + 1 + 1) a' b')]))
      rw [← mk_mid_app, ← mk_mid_len]
theorem mhRules (l : List Rule) : MH m_laws_markRuleS m_laws_heldRuleS l (3 * Rule.mws l) := fun k h0 h1 => by
  have hx := Rule.mws_len l
  obtain ⟨v, ys, a1, a2, a3, a4⟩ := markRule_loop l [] k (by simp only [List.length_nil]; omega) h0 h1
  exact ⟨v, ys, Tr.eq (fun m => by unfold m_laws_markRuleS; rfl) a1, a2, a3, Tr.eq (fun m => by unfold m_laws_heldRuleS; rfl) (a4 [])⟩
end Go.Abs
end
section
set_option linter.unusedVariables false
set_option linter.unusedSimpArgs false
namespace Go.Abs
theorem ruleOf_mws : ∀ l : List Form, alls ruleShape l = true → Rule.mws (l.map ruleOf) ≤ Form.ws l
  | [], _ => Nat.zero_le _
  | x :: xs, h => by
    rw [alls, Bool.and_eq_true] at h
    have ih := ruleOf_mws xs h.2
    have hs := h.1
    unfold ruleShape at hs
    rw [Bool.and_eq_true, decide_eq_true_eq, decide_eq_true_eq] at hs
    rw [List.map_cons, Rule.mws, Form.ws]
    obtain ⟨k, nm, n, sc, kids⟩ := x
    have h2 : kids.length = 2 := hs.2
    match kids, h2 with
    | [p, t], _ =>
      show 1 + p.w + t.w + _ ≤ 1 + Form.w (Form.mk k nm n sc [p, t]) + _
      rw [Form.w, Form.ws, Form.ws, Form.ws]; omega
theorem drop_fws : ∀ (n : Nat) (l : List Form), Form.ws (l.drop n) ≤ Form.ws l
  | 0, l => Nat.le_refl _
  | n + 1, [] => Nat.le_refl _
  | n + 1, x :: xs => by have := drop_fws n xs; rw [List.drop_succ_cons, Form.ws]; omega
theorem parseR_w (f : Form) : Form.ws (parseR f).1 ≤ f.w ∧ Rule.mws (parseR f).2.1 ≤ f.w := by
  have hw := f.w_kids
  unfold parseR
  cases isRules f with
  | false => exact ⟨Nat.zero_le _, Nat.zero_le _⟩
  | true =>
  rw [cond_true]
  cases ha : alls ruleShape (f.kids.drop 2) with
  | false => exact ⟨Nat.zero_le _, Nat.zero_le _⟩
  | true =>
  rw [cond_true]
  cases rulesOkB ((f.kids.drop 2).map ruleOf) (f.kids.getD 1 form0).kids with
  | false => exact ⟨Nat.zero_le _, Nat.zero_le _⟩
  | true =>
  refine ⟨?_, ?_⟩
  · show Form.ws (f.kids.getD 1 form0).kids ≤ f.w
    by_cases h : 1 < f.kids.length
    · have h1 := Form.ws_mem (getD_mem (d := form0) h).2
      have h2 := (f.kids.getD 1 form0).w_kids
      omega
    · have e : f.kids.getD 1 form0 = form0 := by rw [List.getD_eq_getElem?_getD, List.getElem?_eq_none (by omega)]; rfl
      rw [e]; exact Nat.zero_le _
  · show Rule.mws ((f.kids.drop 2).map ruleOf) ≤ f.w
    have h1 := ruleOf_mws _ ha
    have h2 := drop_fws 2 f.kids
    omega
theorem FnExactParseRules_law (f : Form) (hf : f.fit) : TQ (fun m => m_laws_FnExactParseRules m f) (fun r => r = true) := by
  refine TQ.eq (fun m => by unfold m_laws_FnExactParseRules; rfl) (TQ.bind (szForm_tq f 1048576 hf (by omega) (by omega)) (fun v hv => ?_))
  rcases hv with rfl | ⟨h0, rfl⟩
  · exact TQ.cond (fun _ => TQ.val rfl) (fun h => absurd h (by decide))
  refine TQ.cond (fun h => absurd h (by rw [geZ h0]; decide)) (fun _ => ?_)
  have hw := f.w_wt
  have hb : f.w ≤ 2 ^ 36 := by omega
  have hd : Dr (2 ^ 30) f := ⟨by omega, hf⟩
  obtain ⟨r1, r2⟩ := parseR_w f
  have tf := toForm_tr f hb
  have ti := implParseRules_tr f hd
  have e1 := eqFormS_self (parseR f).1
  have e2 := eqRuleS_self (parseR f).2.1
  refine ⟨true, ?_, rfl⟩
  obtain ⟨v1, q1, q2, m1, m2, m3, m4⟩ := mhForm f 1 (by omega) (by omega)
  obtain ⟨v2, ys, a1, a2, a3, a4⟩ := mhForms (parseR f).1 1 (by omega) (by omega)
  obtain ⟨v3, zs, b1, b2, b3, b4⟩ := mhRules (parseR f).2.1 v2 (by omega) (by omega)
  refine Tr.bind tf (Tr.bind (specParseRules_tr f hd) (Tr.bind tf (Tr.bind ti (Tr.bind e1 (Tr.ff rfl (Tr.bind e2 (Tr.ff rfl ?_)))))))
  refine Tr.eq (fun m => by rw [mk_ne_self_f]) ?_
  refine Tr.step (fun m => by rw [m_laws_FnExactParseRules_j1]) ?_
  refine Tr.ff rfl ?_
  refine Tr.bind tf (Tr.bind (eqForm_self f) (Tr.ff rfl (Tr.bind m1 (Tr.ff (mk_not_neg (by show 0 ≤ v1; omega)) (Tr.bind e1 (Tr.ff rfl (Tr.bind e2 (Tr.ff rfl ?_))))))))
  refine Tr.eq (fun m => by rw [mk_ne_self_f]) ?_
  refine Tr.step (fun m => by rw [m_laws_FnExactParseRules_j2]) ?_
  refine Tr.ff rfl ?_
  refine Tr.bind a1 (Tr.bind b1 (Tr.bind a4 (Tr.ff (mk_not_neg (by omega)) (Tr.bind b4 (Tr.ff (mk_not_neg (by omega)) (Tr.ff (mk_ne_self_f v3) ?_))))))
  refine Tr.bind tf (Tr.bind ti (Tr.bind e1 (Tr.ff rfl (Tr.bind e2 (Tr.ff rfl ?_)))))
  refine Tr.eq (fun m => by rw [mk_ne_self_f]) ?_
  refine Tr.step (fun m => by rw [m_laws_FnExactParseRules_j3]) ?_
  refine Tr.ff rfl ?_
  exact Tr.bind a4 (Tr.ff (mk_not_neg (by omega)) (Tr.bind b4 (Tr.ff (mk_not_neg (by omega)) (Tr.ff (mk_ne_self_f v3) Tr.val))))
end Go.Abs
end
