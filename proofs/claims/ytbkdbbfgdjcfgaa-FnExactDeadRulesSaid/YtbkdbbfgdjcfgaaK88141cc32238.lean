/- A part of the proof: what the functions that the law calls answer, as pure values. -/
import Derived.Test.YtbkdbbfgdjcfgaaK101bed98d2fd
import Derived.Test.YtbkdbbfgdjcfgaaK1c4e8e704c39
import Derived.Test.YtbkdbbfgdjcfgaaK3d3262aa3277
import Derived.Test.YtbkdbbfgdjcfgaaK8cdd556606c4
import Derived.Test.YtbkdbbfgdjcfgaaKbf0e433deac6
set_option linter.unusedSimpArgs false
set_option linter.unusedVariables false
section
set_option linter.unusedVariables false
set_option linter.unusedSimpArgs false
namespace Go.Abs
def rowH : Nat → List (Form × Int) → List (List Hit) → List Hit
  | _, [], _ => []
  | k, v :: vs, rows => Hit.mk v.1 (v.2 + 1) form0 (rows.map fun r => r.getD k hit0) :: rowH (k + 1) vs rows
def allM {α β : Type} (D : α → Option β) : List α → Option (List β)
  | [] => some []
  | x :: xs => match D x with
    | none => none
    | some y => match allM D xs with
      | none => none
      | some ys => some (y :: ys)
def oapp {α : Type} : Option (List α) → Option (List α) → Option (List α)
  | some a, some b => some (a ++ b)
  | _, _ => none
mutual
noncomputable def Form.mt (bs : List Bind) (lits : List Form) : Form → Form → Option (List Hit)
  | .mk k nm n sc kids, f =>
    bif decide (k = 1) then
      bif decide (nm = underN) then some []
      else bif inF lits (.mk k nm n sc kids) then (bif decide (f.kind = 1) && refS bs (.mk k nm n sc kids) f then some [] else none)
      else some [Hit.mk (.mk k nm n sc kids) 0 f []]
    else bif decide (k = 2) then (bif same (.mk k nm n sc kids) f then some [] else none)
    else bif decide (f.kind ≠ 3) then none else Form.mts bs lits kids f.kids
noncomputable def Form.mts (bs : List Bind) (lits : List Form) : List Form → List Form → Option (List Hit)
  | [], fs => bif decide (fs.length = 0) then some [] else none
  | p :: ps, fs =>
    bif isDots p then Form.mts bs lits ps fs
    else bif nextD ps then
      bif decide (fs.length + 1 < ps.length) then none
      else match allM (fun f => Form.mt bs lits p f) (fs.take (fs.length + 1 - ps.length)) with
        | none => none
        | some rows => oapp (some (rowH 0 (p.vd lits 0) rows)) (Form.mts bs lits ps (fs.drop (fs.length + 1 - ps.length)))
    else match fs with
      | [] => none
      | f :: fs' => oapp (Form.mt bs lits p f) (Form.mts bs lits ps fs')
end
structure PatS (p : Form) : Prop where
  ok : ∃ d, p.isOk d = true
  shp : p.shp = true
def KidS (x : Form) : Prop := (∃ d, x.isOk d = true) ∧ (isDots x = true ∨ x.shp = true)
theorem isOk_kids {f : Form} {d : Nat} (h : f.isOk d = true) : (f.kind ≠ 3 → f.kids = []) ∧ ∀ x ∈ f.kids, x.isOk (d - 1) = true := by
  rw [Form.isOk_eq] at h
  cases hd : decide (d = 0) with
  | true => rw [hd] at h; cases h
  | false =>
  rw [hd, cond_false] at h
  by_cases h1 : f.kind = 1
  · rw [decide_eq_true h1, cond_true] at h
    simp only [Bool.and_eq_true, decide_eq_true_eq] at h
    have : f.kids = [] := List.eq_nil_of_length_eq_zero (by omega)
    exact ⟨fun _ => this, fun x hx => by rw [this] at hx; cases hx⟩
  · rw [decide_eq_false h1, cond_false] at h
    by_cases h2 : f.kind = 2
    · rw [decide_eq_true h2, cond_true] at h
      simp only [Bool.and_eq_true, decide_eq_true_eq] at h
      have : f.kids = [] := List.eq_nil_of_length_eq_zero (by omega)
      exact ⟨fun _ => this, fun x hx => by rw [this] at hx; cases hx⟩
    · rw [decide_eq_false h2, cond_false] at h
      simp only [Bool.and_eq_true, decide_eq_true_eq] at h
      obtain ⟨h3, _, _, _, h4⟩ := h
      exact ⟨fun hn => absurd h3 hn, fun x hx => alls_iff.1 h4 x hx⟩
theorem kP_mem : ∀ {l : List Form} {pd : Bool}, Form.kP pd l = true → ∀ x ∈ l, isDots x = true ∨ x.shp = true
  | y :: ys, pd, h, x, hx => by
    rw [Form.kP, Bool.and_eq_true] at h
    rcases List.mem_cons.1 hx with rfl | hx
    · cases hd : isDots x with
      | true => exact .inl rfl
      | false => have := h.1; rw [hd, cond_false] at this; exact .inr this
    · exact kP_mem h.2 x hx
theorem PatS.parts {p : Form} (h : PatS p) : isDots p = false ∧ Form.kP true p.kids = true ∧ cntD p.kids ≤ 1 ∧ (∀ x ∈ p.kids, KidS x) ∧ (p.kind ≠ 3 → p.kids = []) := by
  obtain ⟨⟨d, hd⟩, hs⟩ := h
  rw [Form.shp_eq, Bool.and_eq_true, Bool.and_eq_true, Bool.not_eq_true', decide_eq_true_eq] at hs
  obtain ⟨k1, k2⟩ := isOk_kids hd
  exact ⟨hs.1, hs.2.1, hs.2.2, fun x hx => ⟨⟨_, k2 x hx⟩, kP_mem hs.2.1 x hx⟩, k1⟩
theorem KidS.dots {x : Form} (h : KidS x) (hd : isDots x = true) (lits : List Form) : x.vs lits = [] ∧ isVarB lits x = false ∧ x.kids = [] := by
  obtain ⟨⟨d, h⟩, _⟩ := h
  unfold isDots at hd
  rw [Bool.and_eq_true, decide_eq_true_eq, decide_eq_true_eq] at hd
  have hk : x.kids = [] := (isOk_kids h).1 (by omega)
  have hv : isVarB lits x = false := by unfold isVarB; rw [decide_eq_true hd.1, decide_eq_true hd.2]; rfl
  exact ⟨by rw [Form.vs_eq, hk, hv]; rfl, hv, hk⟩
end Go.Abs
end
section
set_option linter.unusedVariables false
set_option linter.unusedSimpArgs false
namespace Go.Abs
def MR (o : Option (List Hit)) (out : List Hit) (r : List Hit × Bool) : Prop := r.2 = o.isSome ∧ ∀ h, o = some h → r.1 = out ++ h
theorem MR.none {out : List Hit} {x : List Hit} : MR none out (x, false) := ⟨rfl, fun h hh => by cases hh⟩
end Go.Abs
end
section
set_option linter.unusedVariables false
set_option linter.unusedSimpArgs false
namespace Go.Abs
def Bind.fit (b : Bind) : Prop := b.name.size ≤ 9223372036854775807 ∧ b.scopes.length ≤ 9223372036854775807
end Go.Abs
end
section
set_option linter.unusedVariables false
set_option linter.unusedSimpArgs false
namespace Go.Abs
noncomputable def rulesOkB (rules : List Rule) (lits : List Form) : Bool := alls (fun r => ruleOk r lits) rules && (decide ((rules.length : Int) ≤ 9) && litOk lits)
structure DrR (n : Nat) (r : Rule) : Prop where
  p : Dr n r.pattern
  t : Dr n r.template
theorem l5Rules_tr (rules : List Rule) (lits : List Form) (hr : ∀ r ∈ rules, DrR (2 ^ 36) r) (hl : Form.fits lits) (hlb : Form.ws lits ≤ 2 ^ 36) : Tr (fun m => m_spec_l5Rules m rules lits) (rulesOkB rules lits) := by
  refine Tr.eq (fun m => by unfold m_spec_l5Rules; rfl) ?_
  have key := drop_ind rules (fun k zs => (∀ z ∈ zs, z ∈ rules) → Tr (fun m => m_spec_l5Rules_l1 m rules lits (k : Int)) (alls (fun r => ruleOk r lits) zs && (decide ((rules.length : Int) ≤ 9) && litOk lits))) ?_ ?_ 0 (Nat.zero_le _) (fun z hz => by simpa using hz)
  · exact key
  · intro _
    refine Tr.step (fun m => by rw [m_spec_l5Rules_l1, ltN_self, cond_false]) (Tr.step (fun m => by rw [m_spec_l5Rules_j2, cond_false]) ?_)
    rw [alls, Bool.true_and]
    by_cases h9 : (rules.length : Int) ≤ 9
    · rw [decide_eq_true h9, Bool.true_and]
      exact Tr.tt (decide_eq_true (by omega)) (Tr.bind (specLit_tr lits hl hlb) Tr.val)
    · rw [decide_eq_false h9, Bool.false_and]
      exact Tr.ff (decide_eq_false (by omega)) Tr.val
  · intro k x zs hk hx hd ih hz
    have hxr := hr x (hz x (by simp))
    refine Tr.step (fun m => by rw [m_spec_l5Rules_l1, ltN hk, cond_true]) ?_
    by_cases h10 : (k : Int) < 10
    · refine Tr.step (fun m => by rw [m_spec_l5Rules_j2, decide_eq_true h10, cond_true, idx_nat hx, Option.bind_some]) ?_
      have hsr := specRuleValid_tr x lits hxr.p.fit hxr.p.w hxr.t.fit hxr.t.w hl hlb
      have hsr2 : Tr (fun m => m_spec_l5Rule m x lits) (ruleOk x lits) := by
        obtain ⟨n, h⟩ := hsr
        refine ⟨n, fun m hm => ?_⟩
        have := h m hm
        unfold m_spec_RuleValid at this
        show m_spec_l5Rule m x lits = _
        replace this : (m_spec_l5Rule m x lits).bind (fun v1 => some v1) = some (ruleOk x lits) := this
        cases h5 : m_spec_l5Rule m x lits with
        | none => rw [h5] at this; cases this
        | some b => rw [h5] at this; exact this
      refine Tr.bind hsr2 ?_
      rw [alls]
      cases ruleOk x lits with
      | false => exact Tr.tt rfl Tr.val
      | true => exact Tr.ff rfl (Tr.eq (fun m => by rw [w64_in (by omega), succN]) (ih (fun z h => hz z (by simp [h]))))
    · refine Tr.step (fun m => by rw [m_spec_l5Rules_j2, decide_eq_false h10, cond_false]) ?_
      rw [decide_eq_false (show ¬ (rules.length : Int) ≤ 9 by omega), Bool.false_and, Bool.and_false]
      exact Tr.ff (decide_eq_false (by omega)) Tr.val
end Go.Abs
end
section
set_option linter.unusedVariables false
set_option linter.unusedSimpArgs false
namespace Go.Abs
def sumW {α : Type} (W : α → Nat) : List α → Nat
  | [] => 0
  | x :: xs => W x + sumW W xs
theorem sumW_mem {α : Type} {W : α → Nat} : ∀ {l : List α} {x : α}, x ∈ l → W x ≤ sumW W l
  | y :: ys, x, h => by
    rw [sumW]
    rcases List.mem_cons.1 h with rfl | h
    · omega
    · have := sumW_mem (W := W) h; omega
theorem sz_loop {α : Type} {l : List α} {W : α → Nat} {L : Nat → Int → Int → Option Int} {E : Nat → α → Int → Option Int}
    (h0 : ∀ m g k, L (m + 1) g k = bif decide (k < (l.length : Int)) then (idx l k).bind fun a => (E m a g).bind fun v => bif decide (v < 0) then some (-1) else L m v (k + 1) else some g)
    (hE : ∀ x ∈ l, ∀ v : Int, 0 ≤ v → v ≤ 2 ^ 40 → TQ (fun m => E m x v) (Left v (W x))) {v : Int} (hv : 0 ≤ v) (h1 : v ≤ 2 ^ 40) : TQ (fun m => L m v 0) (Left v (sumW W l)) := by
  have key := drop_ind l (fun k zs => ∀ g : Int, 0 ≤ g → g ≤ 2 ^ 40 → TQ (fun m => L m g (k : Int)) (Left g (sumW W zs))) ?_ ?_ 0 (Nat.zero_le _) _ hv h1
  · simpa using key
  · intro g hg _
    exact TQ.step (fun m => by rw [h0, ltN_self, cond_false]) (TQ.val (.inr ⟨hg, by simp [sumW]⟩))
  · intro k x zs hk hx hd ihk g hg hg1
    refine TQ.step (fun m => by rw [h0, ltN hk, cond_true, idx_nat hx, Option.bind_some, succN]) ?_
    refine TQ.bind (hE x (List.mem_of_getElem? hx) g hg hg1) (fun r hr => ?_)
    rcases hr with rfl | ⟨hr, rfl⟩
    · exact TQ.cond (fun _ => TQ.val (.inl rfl)) (fun h => absurd h (by decide))
    refine TQ.cond (fun h => absurd h (by rw [geZ hr]; decide)) (fun _ => ?_)
    refine TQ.mono (ihk _ hr (by omega)) (fun r hr => ?_)
    rcases hr with hr | ⟨hr, he⟩
    · exact .inl hr
    · exact .inr ⟨hr, by rw [he, sumW]; omega⟩
theorem sz_two {F : Nat → Option Int} {G : Int → Nat → Option Int} {v : Int} {a b : Nat} (h1 : TQ F (Left v a)) (h2 : ∀ r : Int, 0 ≤ r → r = v - a → TQ (fun m => G r m) (Left r b)) :
    TQ (fun m => (F m).bind fun r => bif decide (r < 0) then some (-1) else (G r m).bind fun s => bif decide (s < 0) then some (-1) else some s) (Left v (a + b)) := by
  refine TQ.bind h1 (fun r hr => ?_)
  rcases hr with rfl | ⟨hr, e⟩
  · exact TQ.cond (fun _ => TQ.val (.inl rfl)) (fun h => absurd h (by decide))
  refine TQ.cond (fun h => absurd h (by rw [geZ hr]; decide)) (fun _ => TQ.bind (h2 r hr e) (fun s hs => ?_))
  rcases hs with rfl | ⟨hs, e2⟩
  · exact TQ.cond (fun _ => TQ.val (.inl rfl)) (fun h => absurd h (by decide))
  exact TQ.cond (fun h => absurd h (by rw [geZ hs]; decide)) (fun _ => TQ.val (.inr ⟨hs, by omega⟩))
theorem sz_many {α : Type} {l : List α} {n : Nat} {v : Int} {G : Int → Nat → Option Int} (hl : l.length ≤ 9223372036854775807) (h0 : 0 ≤ v) (h1 : v ≤ 2 ^ 40) (hG : ∀ r : Int, 0 ≤ r → r = v - l.length → TQ (fun m => G r m) (Left r n)) :
    TQ (fun m => bif decide ((w64 (v - (l.length : Int))) < 0) then some (-1) else G (w64 (v - (l.length : Int))) m) (Left v (l.length + n)) := by
  rw [w64_in (by omega)]
  refine TQ.cond (fun _ => TQ.val (.inl rfl)) (fun h => ?_)
  replace h : 0 ≤ v - (l.length : Int) := by simpa using h
  refine TQ.mono (hG _ h rfl) (fun r hr => ?_)
  rcases hr with hr | ⟨hr, he⟩
  · exact .inl hr
  · exact .inr ⟨hr, by rw [he]; omega⟩
def Bind.wt (b : Bind) : Nat := b.name.size + b.scopes.length
def Rule.wt (r : Rule) : Nat := r.pattern.wt + r.template.wt
def Macro.wt (m : Macro) : Nat := Form.wts m.literals + (m.rules.length + sumW Rule.wt m.rules)
def Expansion.wt (x : Expansion) : Nat := (x.binds.length + sumW Bind.wt x.binds) + (x.macros.length + sumW Macro.wt x.macros)
structure Rule.fit (r : Rule) : Prop where
  p : r.pattern.fit
  t : r.template.fit
structure Macro.fit (m : Macro) : Prop where
  ll : m.literals.length ≤ 9223372036854775807
  l : Form.fits m.literals
  rl : m.rules.length ≤ 9223372036854775807
  r : ∀ r ∈ m.rules, r.fit
structure Expansion.fit (x : Expansion) : Prop where
  bl : x.binds.length ≤ 9223372036854775807
  b : ∀ b ∈ x.binds, b.fit
  ml : x.macros.length ≤ 9223372036854775807
  m : ∀ m ∈ x.macros, m.fit
theorem szRule_tq (r : Rule) (v : Int) (hr : r.fit) (h0 : 0 ≤ v) (h1 : v ≤ 2 ^ 40) : TQ (fun m => m_laws_szRule m r v) (Left v r.wt) := by
  refine TQ.eq (fun m => by unfold m_laws_szRule; rfl) ?_
  exact sz_two (szForm_tq _ _ hr.p h0 h1) (G := fun w m => m_laws_szForm m r.template w) (fun w h2 e => szForm_tq _ _ hr.t h2 (by omega))
theorem szRuleS_tq (l : List Rule) (v : Int) (hl : l.length ≤ 9223372036854775807) (hb : ∀ b ∈ l, b.fit) (h0 : 0 ≤ v) (h1 : v ≤ 2 ^ 40) : TQ (fun m => m_laws_szRuleS m l v) (Left v (l.length + sumW Rule.wt l)) := by
  refine TQ.eq (fun m => by unfold m_laws_szRuleS; rfl) (sz_many hl h0 h1 (G := fun r m => m_laws_szRuleS_l1 m l r 0) (fun r h2 e => ?_))
  exact sz_loop (L := fun m g k => m_laws_szRuleS_l1 m l g k) (E := fun m a g => m_laws_szRule m a g) (fun m g k => by rw [m_laws_szRuleS_l1]) (fun x hx v h h' => szRule_tq x v (hb x hx) h h') h2 (by omega)
theorem toRule_tr (r : Rule) (h1 : r.pattern.w ≤ 2 ^ 36) (h2 : r.template.w ≤ 2 ^ 36) : Tr (fun m => m_laws_toRule m r) r := by
  refine Tr.eq (fun m => by unfold m_laws_toRule; rfl) (Tr.bind (toForm_tr _ h1) (Tr.bind (toForm_tr _ h2) ?_))
  obtain ⟨a, b⟩ := r; exact Tr.val
theorem toRuleS_tr (l : List Rule) (hl : l.length ≤ 2 ^ 36) (h : ∀ r ∈ l, r.pattern.w ≤ 2 ^ 36 ∧ r.template.w ≤ 2 ^ 36) : Tr (fun m => m_laws_toRuleS m l) l := by
  refine Tr.eq (fun m => by unfold m_laws_toRuleS; rfl) (Tr.chk (by simp; omega) ?_)
  have := loop_copy (xs := l) (z := Rule.mk (Form.mk 0 (⟨#[]⟩ : ByteArray) 0 ([] : List Int) ([] : List Form)) (Form.mk 0 (⟨#[]⟩ : ByteArray) 0 ([] : List Int) ([] : List Form))) (f := fun x => x) (L := fun m k acc => m_laws_toRuleS_l1 m l k acc) (E := fun m a => m_laws_toRule m a) (fun m k acc => by rw [m_laws_toRuleS_l1]) (fun a ha => toRule_tr a (h a ha).1 (h a ha).2)
  simpa using this
theorem loop_self {α : Type} {xs : List α} {L : Nat → Int → Option Bool} {E : Nat → α → α → Option Bool}
    (h0 : ∀ m k, L (m + 1) k = bif decide (k < (xs.length : Int)) then (idx xs k).bind fun a => (idx xs k).bind fun b => (E m a b).bind fun v => bif !v then some false else L m (k + 1) else some true)
    (hE : ∀ a, Tr (fun m => E m a a) true) : Tr (fun m => L m 0) true := by
  have key := drop_ind xs (fun k zs => Tr (fun m => L m (k : Int)) true) ?_ ?_ 0 (Nat.zero_le _)
  · simpa using key
  · exact Tr.step (fun m => by rw [h0, ltN_self, cond_false]) Tr.val
  · intro k x zs hk hx hd ih
    refine Tr.step (fun m => by rw [h0, ltN hk, cond_true, idx_nat hx, Option.bind_some, Option.bind_some, succN]) ?_
    refine Tr.bind (hE x) ?_
    exact Tr.ff rfl ih
theorem eqRule_self (r : Rule) : Tr (fun m => m_laws_eqRule m r r) true := by
  refine Tr.eq (fun m => by unfold m_laws_eqRule; rfl) (Tr.bind (eqForm_tr _ _) ?_)
  rw [same_self]
  refine Tr.ff rfl (Tr.bind (eqForm_tr _ _) ?_)
  rw [same_self]; exact Tr.ff rfl Tr.val
theorem eqRuleS_self (l : List Rule) : Tr (fun m => m_laws_eqRuleS m l l) true := by
  refine Tr.eq (fun m => by unfold m_laws_eqRuleS; rfl) (Tr.ff (lenE rfl) ?_)
  exact loop_self (L := fun m k => m_laws_eqRuleS_l1 m l l k) (E := fun m a b => m_laws_eqRule m a b) (fun m k => by rw [m_laws_eqRuleS_l1]) eqRule_self
end Go.Abs
end
section
set_option linter.unusedVariables false
set_option linter.unusedSimpArgs false
namespace Go.Abs
theorem fnd_any {α : Type} {D : α → Bool} {l : List α} {k : Nat} : decide (0 ≤ fnd D l k) = anys D l := by
  rw [Bool.eq_iff_iff, decide_eq_true_iff, fnd_ge, anys_iff]
theorem not_anys {α : Type} {D : α → Bool} : ∀ {l : List α}, (!anys (fun x => !D x) l) = alls D l
  | [] => rfl
  | x :: xs => by rw [anys, alls, Bool.not_or, Bool.not_not, not_anys]
theorem rulesOk_tr (rules : List Rule) (lits : List Form) (hr : ∀ r ∈ rules, r.fit ∧ r.pattern.w ≤ 2 ^ 36 ∧ r.template.w ≤ 2 ^ 36) (hl : Form.fits lits) : Tr (fun m => m_impl_rulesOk m rules lits) (rulesOkB rules lits) := by
  refine Tr.eq (fun m => by unfold m_impl_rulesOk; rfl) ?_
  unfold rulesOkB
  by_cases h9 : (rules.length : Int) ≤ 9
  case neg => rw [decide_eq_false h9, Bool.false_and, Bool.and_false]; exact Tr.ff rfl Tr.val
  rw [decide_eq_true h9, Bool.true_and]
  refine Tr.tt rfl (Tr.bind (implLit_tr lits hl) ?_)
  cases litOk lits with
  | false => rw [Bool.and_false]; exact Tr.ff rfl Tr.val
  | true =>
  rw [Bool.and_true]
  refine Tr.tt rfl (Tr.bind (v := anys (fun r => !ruleOk r lits) rules) ?_ ?_)
  · refine Tr.eq (fun m => by unfold m_slices_ContainsFunc_Rule_rulesOk_1; rfl) (Tr.bind (v := fnd (fun r => !ruleOk r lits) rules 0) ?_ (Tr.of fun m => by rw [fnd_any]))
    refine Tr.eq (fun m => by unfold m_slices_IndexFunc_Rule_rulesOk_1; rfl) ?_
    refine loop_find (L := fun m j => m_slices_IndexFunc_Rule_rulesOk_1_l1 m rules lits j) (E := fun m y => m_impl_rulesOk_1 m y lits) (fun m j => by rw [m_slices_IndexFunc_Rule_rulesOk_1_l1]) (fun y hy => ?_)
    have h := hr y hy
    exact Tr.eq (fun m => by unfold m_impl_rulesOk_1; rfl) (Tr.bind (implRuleValid_tr y lits h.1.p h.2.1 h.1.t h.2.2 hl) Tr.val)
  · rw [show (fun m => some (!anys (fun r => !ruleOk r lits) rules)) = fun (m : Nat) => some (alls (fun r => ruleOk r lits) rules) from funext fun _ => by rw [not_anys]]
    exact Tr.val
end Go.Abs
end
section
set_option linter.unusedVariables false
set_option linter.unusedSimpArgs false
namespace Go.Abs
def HitD : Nat → Hit → Prop
  | 0, h => h.depth = 0 ∧ h.one.valid = true ∧ h.many = []
  | d + 1, h => h.depth = (d : Int) + 1 ∧ h.one = form0 ∧ h.many.length ≤ 400 ∧ ∀ x ∈ h.many, x.name = h.name ∧ HitD d x
def nameG (f : Form) : Bool := isNm f && (!decide (f.name = dotsN) && !decide (f.name = underN))
theorem HitD.depth {d : Nat} {h : Hit} (hd : HitD d h) : h.depth = (d : Int) := by
  cases d with
  | zero => exact hd.1
  | succ d => rw [hd.1]; omega
theorem HitD.isOk : ∀ (d : Nat) (h : Hit), d ≤ 3 → HitD d h → nameG h.name = true → h.isOk = true
  | 0, h, hd, hh, hn => by
    obtain ⟨h1, h2, h3⟩ := hh
    unfold nameG at hn
    simp only [Bool.and_eq_true] at hn
    rw [Hit.isOk_eq, hn.1, hn.2.1, hn.2.2, h1, h2, h3]; rfl
  | d + 1, h, hd, hh, hn => by
    obtain ⟨h1, h2, h3, h4⟩ := hh
    have hn0 := hn
    unfold nameG at hn
    simp only [Bool.and_eq_true] at hn
    rw [Hit.isOk_eq, hn.1, hn.2.1, hn.2.2, h1, h2, same_self, decide_eq_false (show ¬ (d : Int) + 1 = 0 by omega), decide_eq_true (show (0 : Int) ≤ (d : Int) + 1 by omega), decide_eq_true (show (d : Int) + 1 ≤ 3 by omega), decide_eq_true (show (h.many.length : Int) ≤ 400 by omega)]
    simp only [Bool.true_and, cond_false]
    rw [alls_iff]
    intro x hx
    obtain ⟨e1, e2⟩ := h4 x hx
    rw [e1, same_self, e2.depth, decide_eq_true (show (d : Int) = (d : Int) + 1 - 1 by omega), HitD.isOk d x (by omega) e2 (by rw [e1]; exact hn0)]
    rfl
theorem hvF_of : ∀ {l : List Hit} {ps : List Hit}, (∀ x ∈ l, x.isOk = true) → distF (ps.map Hit.name) (l.map Hit.name) = true → hvF ps l = true
  | [], ps, _, _ => by rw [hvF]
  | x :: l, ps, h, hd => by
    rw [List.map_cons, distF, Bool.and_eq_true] at hd
    rw [hvF, Bool.and_eq_true, Bool.and_eq_true]
    refine ⟨h x (by simp), ?_, hvF_of (fun y hy => h y (by simp [hy])) (by rw [List.map_append]; exact hd.2)⟩
    have h1 := hd.1
    unfold inF at h1
    rw [Bool.not_not, alls_iff] at h1
    rw [alls_iff]
    exact fun y hy => h1 y.name (List.mem_map_of_mem hy)
end Go.Abs
end
section
set_option linter.unusedVariables false
set_option linter.unusedSimpArgs false
namespace Go.Abs
theorem hvF_apart : ∀ {l ps : List Hit}, hvF ps l = true → ∀ h ∈ l, ∀ p ∈ ps, same p.name h.name = false
  | x :: xs, ps, hv, h, hh, p, hp => by
    rw [hvF, Bool.and_eq_true, Bool.and_eq_true] at hv
    rcases List.mem_cons.1 hh with rfl | hh
    · have := alls_iff.1 hv.2.1 p hp
      simpa using this
    · exact hvF_apart hv.2.2 h hh p (List.mem_append_left _ hp)
theorem hv_dep : ∀ {l ps : List Hit}, hvF ps l = true → ∀ h ∈ l, depF (nd l) h.name = h.depth
  | x :: xs, ps, hv, h, hh => by
    have hv' := hv
    rw [hvF, Bool.and_eq_true, Bool.and_eq_true] at hv
    show depF ((x.name, x.depth) :: nd xs) h.name = h.depth
    rw [depF]
    rcases List.mem_cons.1 hh with rfl | hh
    · rw [same_self, cond_true]
    · rw [hvF_apart hv.2.2 h hh x (by simp), cond_false]
      exact hv_dep hv.2.2 h hh
end Go.Abs
end
section
set_option linter.unusedVariables false
set_option linter.unusedSimpArgs false
namespace Go.Abs
def oR (o : Option (List Hit)) : List Hit × Bool := (o.getD [], o.isSome)
structure MatS (bs : List Bind) (lits : List Form) (P F : Form) : Prop where
  kid : ∀ x ∈ P.kids, KidS x
  ih : ∀ x ∈ P.kids, isDots x = false → ∀ f ∈ F.kids, Tr (fun m => m_impl_match m bs x lits f) (oR (x.mt bs lits f))
  wp : Form.ws P.kids ≤ 2 ^ 17
  wf : Form.ws F.kids ≤ 2 ^ 17
section
variable {bs : List Bind} {lits : List Form} {P F : Form}
structure RowS (P F : Form) (xs : List Form) (pr dd : Form) (tail : List Form) : Prop where
  eq : P.kids = xs ++ pr :: dd :: tail
  pre : ∀ x ∈ xs, isDots x = false
  row : isDots pr = false
  dots : isDots dd = true
  post : ∀ x ∈ tail, isDots x = false
  len : xs.length + tail.length ≤ F.kids.length
def RowS.many (F : Form) (xs tail : List Form) : Nat := F.kids.length - (xs.length + tail.length)
variable {xs tail : List Form} {pr dd : Form}
theorem RowS.plen (hR : RowS P F xs pr dd tail) : P.kids.length = xs.length + 2 + tail.length := by rw [hR.eq]; simp; omega
theorem RowS.lens (hS : MatS bs lits P F) (hR : RowS P F xs pr dd tail) : P.kids.length ≤ 2 ^ 17 ∧ F.kids.length ≤ 2 ^ 17 := ⟨Nat.le_trans (Form.ws_len _) hS.wp, Nat.le_trans (Form.ws_len _) hS.wf⟩
theorem RowS.row_eq (hS : MatS bs lits P F) (hR : RowS P F xs pr dd tail) : w64 ((((xs.length + 1 : Nat) : Int)) - 1) = ((xs.length : Nat) : Int) := by
  have h1 := RowS.lens hS hR
  have h2 := hR.plen
  rw [w64_in (by omega)]; omega
end
end Go.Abs
end
section
set_option linter.unusedVariables false
set_option linter.unusedSimpArgs false
namespace Go.Abs
theorem PatS.kind {p : Form} (h : PatS p) (h1 : ¬ p.kind = 1) (h2 : ¬ p.kind = 2) : p.kind = 3 := by
  obtain ⟨d, hd⟩ := h.ok
  rw [Form.isOk_eq] at hd
  cases hd0 : decide (d = 0) with
  | true => rw [hd0] at hd; cases hd
  | false =>
    rw [hd0, cond_false, decide_eq_false h1, cond_false, decide_eq_false h2, cond_false, Bool.and_eq_true, decide_eq_true_eq] at hd
    exact hd.1
theorem cnt_eq (f : Form) : f.cnt = 1 + Form.cnts f.kids := by obtain ⟨a, b, c, d, e⟩ := f; rw [Form.cnt]; rfl
end Go.Abs
end
section
set_option linter.unusedVariables false
set_option linter.unusedSimpArgs false
namespace Go.Abs
theorem isOk_w : ∀ (n : Nat) (f : Form), f.w ≤ n → ∀ d, f.isOk d = true → f.w + 1 ≤ 26 * f.cnt := by
  intro n
  induction n with
  | zero => intro f h; have := f.w_kids; omega
  | succ n ih =>
    intro f hn d hd
    have hw := f.w_kids
    have hc := cnt_eq f
    obtain ⟨k1, k2⟩ := isOk_kids hd
    have hsc : f.scopes.length ≤ 24 := by
      rw [Form.isOk_eq] at hd
      cases hd0 : decide (d = 0) with
      | true => rw [hd0] at hd; cases hd
      | false =>
      rw [hd0, cond_false] at hd
      by_cases h1 : f.kind = 1
      · rw [decide_eq_true h1, cond_true] at hd
        unfold scOk at hd
        simp only [Bool.and_eq_true, decide_eq_true_eq] at hd
        omega
      · rw [decide_eq_false h1, cond_false] at hd
        by_cases h2 : f.kind = 2
        · rw [decide_eq_true h2, cond_true] at hd
          simp only [Bool.and_eq_true, decide_eq_true_eq] at hd
          omega
        · rw [decide_eq_false h2, cond_false] at hd
          simp only [Bool.and_eq_true, decide_eq_true_eq] at hd
          omega
    have hk : Form.ws f.kids ≤ 26 * Form.cnts f.kids := by
      have : ∀ l : List Form, (∀ x ∈ l, x ∈ f.kids) → Form.ws l ≤ 26 * Form.cnts l := by
        intro l
        induction l with
        | nil => intro _; rw [Form.ws]; omega
        | cons x l ihl =>
          intro hx
          have h1 := ihl (fun y hy => hx y (by simp [hy]))
          have hm := hx x (by simp)
          have h2 := Form.ws_mem hm
          have h3 := ih x (by omega) _ (k2 x hm)
          rw [Form.cnts, Form.ws]; omega
      exact this _ (fun x hx => hx)
    omega
theorem rulesOk_all {rules : List Rule} {lits : List Form} (h : rulesOkB rules lits = true) : (∀ r ∈ rules, ruleOk r lits = true) ∧ rules.length ≤ 9 := by
  unfold rulesOkB at h
  simp only [Bool.and_eq_true, decide_eq_true_eq] at h
  exact ⟨alls_iff.1 h.1, by have := h.2.1; omega⟩
structure RulesF (rules : List Rule) : Prop where
  fit : ∀ r ∈ rules, r.fit
  pw : ∀ r ∈ rules, r.pattern.w ≤ 2 ^ 36
  tw : ∀ r ∈ rules, r.template.w ≤ 2 ^ 36
theorem eqFormS_self (l : List Form) : Tr (fun m => m_laws_eqFormS m l l) true := by have := eqFormS_tr l l; rwa [same_self] at this
end Go.Abs
end
section
set_option linter.unusedVariables false
set_option linter.unusedSimpArgs false
namespace Go.Abs
noncomputable def deepB (x : Form) (h : Hit) : Bool := Form.part h.name x && !decide (h.depth = 0)
noncomputable def nthR (x : Form) (n : Nat) (hs : List Hit) : List Hit := hs.map fun h => bif deepB x h then h.many.getD n hit0 else h
def DepR (l : List (Form × Int)) (v : Nat) (hs : List Hit) (x : Form) : Prop := ∀ g, Form.part g x = true → (0 < dep l g - v ∨ 0 < dep (nd hs) g) → dep (nd hs) g = dep l g - v
structure FillS (l : List (Form × Int)) (v : Nat) (hs : List Hit) (x : Form) : Prop where
  hv : hvOk hs = true
  rws : x.rws l v = true
  ok : ∃ d, x.isOk d = true
  R : DepR l v hs x
theorem part_self (x : Form) : Form.part x x = true := by rw [Form.part_eq, same_self, Bool.true_or]
theorem part_kid {g x f : Form} (hx : x ∈ f.kids) (h : Form.part g x = true) : Form.part g f = true := by
  rw [Form.part_eq, parts_mem hx h, Bool.or_true]
theorem kR_kid {l : List (Form × Int)} {v : Nat} : ∀ {zs : List Form} {i : Nat} {x : Form}, Form.kR l v zs = true → zs[i]? = some x → isDots x = false → bif nextD (zs.drop (i + 1)) then x.anyD l v = true ∧ x.rws l (v + 1) = true else x.rws l v = true
  | y :: ys, 0, x, h, hx, hd => by
    simp at hx; subst hx
    rw [Form.kR, Bool.and_eq_true, hd, cond_false] at h
    have h1 := h.1
    simp only [List.drop_succ_cons, List.drop_zero]
    cases hn : nextD ys with
    | true => rw [hn, cond_true, Bool.and_eq_true] at h1; exact h1
    | false => rw [hn, cond_false] at h1; exact h1
  | y :: ys, i + 1, x, h, hx, hd => by
    rw [Form.kR, Bool.and_eq_true] at h
    have := kR_kid (zs := ys) (i := i) (x := x) h.2 (by simpa using hx) hd
    simpa using this
mutual
theorem anyD_ex {l : List (Form × Int)} {v : Int} : ∀ f : Form, f.anyD l v = true → ∃ g, Form.part g f = true ∧ v < dep l g
  | .mk a b c d e, h => by
    rw [Form.anyD, Bool.or_eq_true] at h
    rcases h with h | h
    · exact ⟨_, part_self _, of_decide_eq_true h⟩
    · obtain ⟨g, h1, h2⟩ := anyDs_ex e h
      exact ⟨g, by rw [Form.part, h1, Bool.or_true], h2⟩
theorem anyDs_ex {l : List (Form × Int)} {v : Int} : ∀ zs : List Form, Form.anyDs l v zs = true → ∃ g, Form.parts g zs = true ∧ v < dep l g
  | [], h => by rw [Form.anyDs] at h; cases h
  | x :: xs, h => by
    rw [Form.anyDs, Bool.or_eq_true] at h
    rcases h with h | h
    · obtain ⟨g, h1, h2⟩ := anyD_ex x h
      exact ⟨g, by rw [Form.parts, h1, Bool.true_or], h2⟩
    · obtain ⟨g, h1, h2⟩ := anyDs_ex xs h
      exact ⟨g, by rw [Form.parts, h1, Bool.or_true], h2⟩
end
theorem hvOk_all {hs : List Hit} (h : hvOk hs = true) : (∀ x ∈ hs, x.isOk = true) ∧ hs.length ≤ 20 := by
  unfold hvOk at h
  rw [Bool.and_eq_true, decide_eq_true_eq] at h
  refine ⟨?_, by omega⟩
  have : ∀ {l ps : List Hit}, hvF ps l = true → ∀ x ∈ l, x.isOk = true := by
    intro l
    induction l with
    | nil => intro ps _ x hx; cases hx
    | cons y ys ih =>
      intro ps hv x hx
      rw [hvF, Bool.and_eq_true, Bool.and_eq_true] at hv
      rcases List.mem_cons.1 hx with rfl | hx
      · exact hv.1
      · exact ih hv.2.2 x hx
  exact this h.1
theorem isOk_hit {h : Hit} (hk : h.isOk = true) : isNm h.name = true ∧ (0 ≤ h.depth ∧ h.depth ≤ 3) ∧ (h.depth = 0 → h.one.valid = true ∧ h.many = []) ∧ (h.depth ≠ 0 → h.many.length ≤ 400 ∧ ∀ y ∈ h.many, y.name = h.name ∧ y.depth = h.depth - 1 ∧ y.isOk = true) := by
  rw [Hit.isOk_eq] at hk
  simp only [Bool.and_eq_true, decide_eq_true_eq] at hk
  obtain ⟨a, _, _, b, c⟩ := hk
  refine ⟨a, b, fun h0 => ?_, fun h0 => ?_⟩
  · rw [decide_eq_true h0, cond_true, Bool.and_eq_true, decide_eq_true_eq] at c
    exact ⟨c.1, List.eq_nil_of_length_eq_zero (by omega)⟩
  · rw [decide_eq_false h0, cond_false, Bool.and_eq_true, Bool.and_eq_true, decide_eq_true_eq] at c
    refine ⟨by omega, fun y hy => ?_⟩
    have := alls_iff.1 c.2.2 y hy
    rw [Bool.and_eq_true, Bool.and_eq_true, decide_eq_true_eq] at this
    exact ⟨same_iff.1 this.1, this.2.1, this.2.2⟩
theorem hv_name {hs : List Hit} (hv : hvOk hs = true) {h : Hit} (hm : h ∈ hs) : dep (nd hs) h.name = h.depth := by
  have hn := (isOk_hit ((hvOk_all hv).1 h hm)).1
  unfold hvOk at hv
  rw [Bool.and_eq_true] at hv
  unfold isNm at hn
  rw [Bool.and_eq_true, decide_eq_true_eq] at hn
  unfold dep
  rw [decide_eq_false (by simp [hn.1]), cond_false]
  exact hv_dep hv.1 h hm
theorem depF_none {f : Form} : ∀ {l : List Hit}, (∀ h ∈ l, h.name ≠ f) → depF (nd l) f = -1
  | [], _ => rfl
  | x :: xs, h => by
    show depF ((x.name, x.depth) :: nd xs) f = -1
    rw [depF, same_ne (h x (by simp)), cond_false, depF_none (fun y hy => h y (by simp [hy]))]
theorem dep_cases {hs : List Hit} (hv : hvOk hs = true) (g : Form) : (∃ h ∈ hs, h.name = g ∧ dep (nd hs) g = h.depth) ∨ ((∀ h ∈ hs, h.name ≠ g) ∧ dep (nd hs) g = -1) := by
  by_cases hx : ∃ h ∈ hs, h.name = g
  · obtain ⟨h, hm, rfl⟩ := hx
    exact .inl ⟨h, hm, rfl, hv_name hv hm⟩
  · have hn : ∀ h ∈ hs, h.name ≠ g := fun h hm he => hx ⟨h, hm, he⟩
    refine .inr ⟨hn, ?_⟩
    unfold dep
    cases decide (g.kind ≠ 1) with
    | true => rfl
    | false => rw [cond_false]; exact depF_none hn
theorem FillS.kid {l : List (Form × Int)} {v : Nat} {hs : List Hit} {f x : Form} (hF : FillS l v hs f) {i : Nat} (hx : f.kids[i]? = some x) (hd : isDots x = false) (hn : nextD (f.kids.drop (i + 1)) = false) : FillS l v hs x := by
  have hm := List.mem_of_getElem? hx
  have hr := hF.rws
  rw [Form.rws_eq, Bool.and_eq_true] at hr
  have := kR_kid hr.2 hx hd
  rw [hn, cond_false] at this
  obtain ⟨d, hok⟩ := hF.ok
  exact ⟨hF.hv, this, ⟨_, (isOk_kids hok).2 x hm⟩, fun g hg => hF.R g (part_kid hm hg)⟩
theorem many_mem {h : Hit} {n : Nat} (hn : n < h.many.length) : h.many.getD n hit0 ∈ h.many := by
  rw [List.getD_eq_getElem?_getD, List.getElem?_eq_getElem hn]; exact List.getElem_mem hn
theorem nthR_names {x : Form} {n : Nat} : ∀ {hs : List Hit}, (∀ h ∈ hs, h.isOk = true) → (∀ h ∈ hs, deepB x h = true → n < h.many.length) → (nthR x n hs).map Hit.name = hs.map Hit.name
  | [], _, _ => rfl
  | h :: hs, hk, hn => by
    have ih := nthR_names (x := x) (n := n) (hs := hs) (fun y hy => hk y (by simp [hy])) (fun y hy => hn y (by simp [hy]))
    show (bif deepB x h then h.many.getD n hit0 else h).name :: (nthR x n hs).map Hit.name = h.name :: hs.map Hit.name
    rw [ih]
    cases hd : deepB x h with
    | false => rfl
    | true =>
      rw [cond_true]
      have h0 : h.depth ≠ 0 := by
        unfold deepB at hd
        rw [Bool.and_eq_true, Bool.not_eq_true', decide_eq_false_iff_not] at hd
        exact hd.2
      rw [(((isOk_hit (hk h (by simp))).2.2.2 h0).2 _ (many_mem (hn h (by simp) hd))).1]
theorem hvF_dist : ∀ {l ps : List Hit}, hvF ps l = true → distF (ps.map Hit.name) (l.map Hit.name) = true
  | [], ps, _ => rfl
  | x :: xs, ps, h => by
    rw [hvF, Bool.and_eq_true, Bool.and_eq_true] at h
    have ih := hvF_dist h.2.2
    rw [List.map_append] at ih
    rw [List.map_cons, distF]
    have h1 : inF (ps.map Hit.name) x.name = false := by
      unfold inF
      rw [alls_iff.2 (fun y hy => ?_)]
      · rfl
      · obtain ⟨z, hz, rfl⟩ := List.mem_map.1 hy
        exact alls_iff.1 h.2.1 z hz
    rw [h1]; simpa using ih
theorem nthR_hv {x : Form} {n : Nat} {hs : List Hit} (hv : hvOk hs = true) (hn : ∀ h ∈ hs, deepB x h = true → n < h.many.length) : hvOk (nthR x n hs) = true := by
  obtain ⟨h1, h2⟩ := hvOk_all hv
  have hnm := nthR_names h1 hn
  unfold hvOk at hv ⊢
  rw [Bool.and_eq_true] at hv ⊢
  refine ⟨hvF_of (fun y hy => ?_) ?_, ?_⟩
  · obtain ⟨h, hm, rfl⟩ := List.mem_map.1 hy
    cases hd : deepB x h with
    | false => exact h1 h hm
    | true =>
      rw [cond_true]
      have h0 : h.depth ≠ 0 := by
        unfold deepB at hd
        rw [Bool.and_eq_true, Bool.not_eq_true', decide_eq_false_iff_not] at hd
        exact hd.2
      exact (((isOk_hit (h1 h hm)).2.2.2 h0).2 _ (many_mem (hn h hm hd))).2.2
  · rw [hnm]; exact hvF_dist hv.1
  · have : (nthR x n hs).length = hs.length := by unfold nthR; rw [List.length_map]
    rw [this]; exact hv.2
theorem FillS.row {l : List (Form × Int)} {v : Nat} {hs : List Hit} {f x : Form} (hF : FillS l v hs f) {i : Nat} (hx : f.kids[i]? = some x) (hd : isDots x = false) (hn : nextD (f.kids.drop (i + 1)) = true) :
    (∃ h ∈ hs, deepB x h = true) ∧ ∀ n, (∀ h ∈ hs, deepB x h = true → n < h.many.length) → FillS l (v + 1) (nthR x n hs) x := by
  have hm := List.mem_of_getElem? hx
  have hr := hF.rws
  rw [Form.rws_eq, Bool.and_eq_true] at hr
  have hk := kR_kid hr.2 hx hd
  rw [hn, cond_true] at hk
  obtain ⟨d, hok⟩ := hF.ok
  refine ⟨?_, fun n hlen => ⟨nthR_hv hF.hv hlen, hk.2, ⟨_, (isOk_kids hok).2 x hm⟩, fun g hg hpos => ?_⟩⟩
  · obtain ⟨g, h1, h2⟩ := anyD_ex x hk.1
    have hR := hF.R g (part_kid hm h1) (.inl (by omega))
    rcases dep_cases hF.hv g with ⟨h, hmem, rfl, he⟩ | ⟨_, he⟩
    · refine ⟨h, hmem, ?_⟩
      unfold deepB
      rw [h1, Bool.true_and, decide_eq_false (by omega)]; rfl
    · omega
  · have hR := hF.R g (part_kid hm hg)
    rcases dep_cases hF.hv g with ⟨h, hmem, rfl, he⟩ | ⟨hno, he⟩
    · have hin : (bif deepB x h then h.many.getD n hit0 else h) ∈ nthR x n hs := List.mem_map.2 ⟨h, hmem, rfl⟩
      have hok := isOk_hit ((hvOk_all hF.hv).1 h hmem)
      by_cases h0 : h.depth = 0
      · have hdp : deepB x h = false := by unfold deepB; rw [decide_eq_true h0]; simp
        rw [hdp, cond_false] at hin
        have := hv_name (nthR_hv hF.hv hlen) hin
        rcases hpos with hp | hp
        · have := hR (.inl (by omega)); omega
        · omega
      · have hdp : deepB x h = true := by unfold deepB; rw [hg, decide_eq_false h0]; rfl
        rw [hdp, cond_true] at hin
        have hnm := (hok.2.2.2 h0).2 _ (many_mem (hlen h hmem hdp))
        have h2 := hv_name (nthR_hv hF.hv hlen) hin
        rw [hnm.1, hnm.2.1] at h2
        have := hR (.inr (by have := hok.2.1.1; omega))
        rw [h2]; omega
    · have h2 : dep (nd (nthR x n hs)) g = -1 := by
        rcases dep_cases (nthR_hv hF.hv hlen) g with ⟨h', hmem', hnm', _⟩ | ⟨_, he'⟩
        · have : h'.name ∈ (nthR x n hs).map Hit.name := List.mem_map.2 ⟨h', hmem', rfl⟩
          rw [nthR_names (hvOk_all hF.hv).1 hlen] at this
          obtain ⟨h, hmem, hnm⟩ := List.mem_map.1 this
          exact absurd (hnm.trans hnm') (hno h hmem)
        · exact he'
      rcases hpos with hp | hp
      · have := hR (.inl (by omega)); omega
      · omega
theorem FillS.leaf {l : List (Form × Int)} {v : Nat} {hs : List Hit} {x : Form} (hF : FillS l v hs x) : hAt hs x = -1 ∨ ∃ i h, hAt hs x = ((i : Nat) : Int) ∧ hs[i]? = some h ∧ h.depth = 0 ∧ h.one.valid = true := by
  rcases fnd_at (D := fun y : Hit => same y.name x) (l := hs) (k := 0) with ⟨h1, _⟩ | ⟨i, h, h1, h2, h3, _⟩
  · exact .inl h1
  · have hm := List.mem_of_getElem? h2
    have hn : h.name = x := same_iff.1 h3
    have hok := isOk_hit ((hvOk_all hF.hv).1 h hm)
    have hd := hv_name hF.hv hm
    rw [hn] at hd
    have hr := hF.rws
    rw [Form.rws_eq, Bool.and_eq_true, Bool.not_eq_true', decide_eq_false_iff_not] at hr
    have h0 : h.depth = 0 := by
      by_cases hp : 0 < h.depth
      · have := hF.R x (part_self x) (.inr (by omega)); omega
      · have := hok.2.1.1; omega
    exact .inr ⟨i, h, by unfold hAt; rw [h1, Nat.zero_add], h2, h0, (hok.2.2.1 h0).1⟩
structure FormF (y : Form) : Prop where
  ok : ∃ d, y.isOk d = true
  cnt : y.cnt ≤ 401
theorem FormF.w {y : Form} (h : FormF y) : y.w ≤ 10426 := by
  obtain ⟨d, hd⟩ := h.ok
  have := isOk_w _ y (Nat.le_refl _) d hd
  have := h.cnt; omega
end Go.Abs
end
section
set_option linter.unusedVariables false
set_option linter.unusedSimpArgs false
namespace Go.Abs
theorem kD_prev : ∀ {zs : List Form} {pd sn : Bool} {i : Nat} {x : Form}, Form.kD false pd sn zs = true → zs[i]? = some x → isDots x = true → (i = 0 ∧ pd = false) ∨ ∃ j y, i = j + 1 ∧ zs[j]? = some y ∧ isDots y = false
  | z :: zs, pd, sn, 0, x, h, hx, hd => by
    simp at hx; subst hx
    rw [Form.kD, hd, cond_true, Bool.and_eq_true, Bool.and_eq_true, Bool.not_eq_true'] at h
    exact .inl ⟨rfl, h.1.1⟩
  | z :: zs, pd, sn, i + 1, x, h, hx, hd => by
    rw [Form.kD, Bool.and_eq_true] at h
    rcases kD_prev (zs := zs) (i := i) h.2 (by simpa using hx) hd with ⟨rfl, h2⟩ | ⟨j, y, rfl, hy, hyd⟩
    · exact .inr ⟨0, z, rfl, rfl, h2⟩
    · exact .inr ⟨j + 1, y, rfl, by simpa using hy, hyd⟩
theorem FillS.plain {l : List (Form × Int)} {v : Nat} {hs : List Hit} {f : Form} (hF : FillS l v hs f) (hd : f.dotsOk false = true) (hno : ∀ h ∈ hs, Form.part h.name f = false) : ∀ x ∈ f.kids, isDots x = false := by
  intro x hx
  rw [Bool.eq_false_iff]
  intro hdx
  obtain ⟨i, hi⟩ := List.getElem?_of_mem hx
  rw [Form.dotsOk_eq] at hd
  rcases kD_prev hd hi hdx with ⟨_, h⟩ | ⟨j, y, rfl, hy, hyd⟩
  · cases h
  · have hnx : nextD (f.kids.drop (j + 1)) = true := by
      rw [drop_get hi]; exact hdx
    obtain ⟨⟨h, hm, hdp⟩, _⟩ := hF.row hy hyd hnx
    unfold deepB at hdp
    rw [Bool.and_eq_true] at hdp
    have := part_kid (List.mem_of_getElem? hy) hdp.1
    rw [hno h hm] at this; cases this
end Go.Abs
end
section
set_option linter.unusedVariables false
set_option linter.unusedSimpArgs false
namespace Go.Abs
mutual
noncomputable def Form.gen (lits : List Form) : Form → Form → Bool
  | .mk k nm n sc kids, p =>
    bif isVarB lits (.mk k nm n sc kids) then true
    else bif decide (k = 1) && decide (nm = underN) then true
    else bif decide (k ≠ 3) then same (.mk k nm n sc kids) p
    else bif decide (p.kind ≠ 3) then false
    else bif decide ((kids.length : Int) ≠ (p.kids.length : Int)) then false
    else Form.gens lits kids p.kids
noncomputable def Form.gens (lits : List Form) : List Form → List Form → Bool
  | [], _ => true
  | _ :: _, [] => true
  | q :: qs, p :: ps => bif decide (isDots q ≠ isDots p) then false else bif !isDots q then (bif !Form.gen lits q p then false else Form.gens lits qs ps) else Form.gens lits qs ps
end
theorem Form.gen_eq (lits : List Form) (q p : Form) : q.gen lits p = bif isVarB lits q then true
    else bif decide (q.kind = 1) && decide (q.name = underN) then true
    else bif decide (q.kind ≠ 3) then same q p
    else bif decide (p.kind ≠ 3) then false
    else bif decide ((q.kids.length : Int) ≠ (p.kids.length : Int)) then false
    else Form.gens lits q.kids p.kids := by obtain ⟨a, b, c, d, e⟩ := q; rw [Form.gen]; rfl
theorem implGen_n (lits : List Form) : ∀ (n : Nat) (q : Form), q.w ≤ n → ∀ p : Form, Tr (fun m => m_impl_general m q p lits) (q.gen lits p) := by
  intro n
  induction n with
  | zero => intro q h; have := q.w_kids; omega
  | succ n ih =>
    intro q hn p
    have hw := q.w_kids
    rw [Form.gen_eq]
    refine Tr.step (fun m => by rw [m_impl_general]) (Tr.bind (isVar_tr q lits) ?_)
    have yes : Tr (fun m => m_impl_general_j1 m q p lits true) true := Tr.step (fun m => by rw [m_impl_general_j1, cond_true]) Tr.val
    cases isVarB lits q with
    | true => exact yes
    | false =>
    rw [cond_false]
    refine Tr.ff rfl (Tr.bind (v := decide (q.kind = 1) && decide (q.name = underN)) (named_tr q underN) ?_)
    cases decide (q.kind = 1) && decide (q.name = underN) with
    | true => exact yes
    | false =>
    rw [cond_false]
    refine Tr.step (fun m => by rw [m_impl_general_j1, cond_false]) ?_
    cases decide (q.kind ≠ 3) with
    | true => exact Tr.tt rfl (Tr.bind (implFormSame_tr q p) Tr.val)
    | false =>
    rw [cond_false]
    refine Tr.ff rfl ?_
    have no : Tr (fun m => m_impl_general_j2 m q p lits true) false := Tr.step (fun m => by rw [m_impl_general_j2, cond_true]) Tr.val
    cases decide (p.kind ≠ 3) with
    | true => exact Tr.tt rfl no
    | false =>
    rw [cond_false]
    refine Tr.ff rfl ?_
    by_cases hl : (q.kids.length : Int) = (p.kids.length : Int)
    case neg => rw [decide_eq_true hl]; exact no
    rw [decide_eq_false (fun h => h hl), cond_false]
    refine Tr.step (fun m => by rw [m_impl_general_j2, cond_false]) ?_
    have key := drop_ind q.kids (fun k zs => Tr (fun m => m_impl_general_l3 m q p lits (k : Int)) (Form.gens lits zs (p.kids.drop k))) ?_ ?_ 0 (Nat.zero_le _)
    · exact key
    · exact Tr.step (fun m => by rw [m_impl_general_l3, ltN_self, cond_false, Form.gens]) Tr.val
    · intro k x zs hk hx hd ihk
      have hk2 : k < p.kids.length := by omega
      have hdr : p.kids.drop k = p.kids[k] :: p.kids.drop (k + 1) := List.drop_eq_getElem_cons hk2
      have hy : p.kids[k]? = some p.kids[k] := List.getElem?_eq_getElem hk2
      have hxw := Form.ws_mem (List.mem_of_getElem? hx)
      rw [hdr, Form.gens]
      refine Tr.step (fun m => by rw [m_impl_general_l3, ltN hk, cond_true, idx_nat hx, Option.bind_some]) (Tr.bind (v := isDots x) (named_tr x dotsN) ?_)
      refine Tr.eq (fun m => by rw [idx_nat hy, Option.bind_some]) (Tr.bind (v := isDots p.kids[k]) (named_tr p.kids[k] dotsN) ?_)
      cases decide (isDots x ≠ isDots p.kids[k]) with
      | true => exact Tr.tt rfl Tr.val
      | false =>
      rw [cond_false]
      refine Tr.ff rfl ?_
      cases isDots x with
      | true => exact Tr.ff rfl (Tr.eq (fun m => by rw [succN]) ihk)
      | false =>
      rw [Bool.not_false, cond_true]
      refine Tr.tt rfl (Tr.eq (fun m => by rw [Option.bind_some]) (Tr.bind (ih x (by omega) _) ?_))
      cases x.gen lits p.kids[k] with
      | false => exact Tr.tt rfl Tr.val
      | true => exact Tr.ff rfl (Tr.eq (fun m => by rw [succN]) ihk)
theorem litF_under {x : Form} : ∀ {ps l : List Form}, litF ps l = true → x ∈ l → x.name ≠ underN
  | ps, y :: l, h, hx => by
    rw [litF] at h
    simp only [Bool.and_eq_true, Bool.not_eq_true', decide_eq_false_iff_not] at h
    rcases List.mem_cons.1 hx with rfl | hx
    · exact h.2.2.1
    · exact litF_under h.2.2.2.2 hx
theorem inF_under {lits : List Form} {q : Form} (h : litOk lits = true) (hq : q.name = underN) : inF lits q = false := by
  unfold litOk at h
  rw [Bool.and_eq_true] at h
  unfold inF
  rw [Bool.not_eq_false', alls_iff]
  intro x hx
  rw [Bool.not_eq_true']
  refine same_ne (fun e => litF_under h.1 hx ?_)
  rw [e]; exact hq
theorem specGen_n (lits : List Form) (hlo : litOk lits = true) : ∀ (n : Nat) (q : Form), q.w ≤ n → ∀ p : Form, Tr (fun m => m_spec_l5General m p q lits) (q.gen lits p) := by
  intro n
  induction n with
  | zero => intro q h; have := q.w_kids; omega
  | succ n ih =>
    intro q hn p
    have hw := q.w_kids
    have e : q.gen lits p = bif decide (q.kind = 1) && (!decide (q.name = dotsN) && !inF lits q) then true else bif decide (q.kind ≠ 3) then same p q
        else bif decide (p.kind ≠ 3) then false
        else bif decide ((q.kids.length : Int) ≠ (p.kids.length : Int)) then false
        else Form.gens lits q.kids p.kids := by
      rw [Form.gen_eq, same_comm q p]
      unfold isVarB
      by_cases hu : q.name = underN
      · rw [inF_under hlo hu, decide_eq_true hu, decide_eq_false (show ¬ q.name = dotsN by rw [hu]; decide)]
        cases decide (q.kind = 1) <;> rfl
      · rw [decide_eq_false hu]
        cases decide (q.kind = 1) <;> cases decide (q.name = dotsN) <;> cases inF lits q <;> rfl
    rw [e]
    have j1 : Tr (fun m => m_spec_l5General_j1 m p q lits) (bif decide (q.kind ≠ 3) then same p q
        else bif decide (p.kind ≠ 3) then false
        else bif decide ((q.kids.length : Int) ≠ (p.kids.length : Int)) then false
        else Form.gens lits q.kids p.kids) := by
      refine Tr.step (fun m => by rw [m_spec_l5General_j1]) ?_
      cases decide (q.kind ≠ 3) with
      | true => exact Tr.tt rfl (Tr.bind (specFormSame_tr p q) Tr.val)
      | false =>
      rw [cond_false]
      refine Tr.ff rfl ?_
      have no : Tr (fun m => m_spec_l5General_j2 m p q lits true) false := Tr.step (fun m => by rw [m_spec_l5General_j2, cond_true]) Tr.val
      cases decide (p.kind ≠ 3) with
      | true => exact Tr.tt rfl no
      | false =>
      rw [cond_false]
      refine Tr.ff rfl ?_
      by_cases hl : (q.kids.length : Int) = (p.kids.length : Int)
      case neg => rw [decide_eq_true hl, decide_eq_true (show (p.kids.length : Int) ≠ (q.kids.length : Int) from fun h => hl h.symm)]; exact no
      rw [decide_eq_false (show ¬ (q.kids.length : Int) ≠ (p.kids.length : Int) from fun h => h hl), decide_eq_false (show ¬ (p.kids.length : Int) ≠ (q.kids.length : Int) from fun h => h hl.symm), cond_false]
      refine Tr.step (fun m => by rw [m_spec_l5General_j2, cond_false]) ?_
      have key := drop_ind q.kids (fun k zs => Tr (fun m => m_spec_l5General_l3 m p q lits (k : Int)) (Form.gens lits zs (p.kids.drop k))) ?_ ?_ 0 (Nat.zero_le _)
      · exact key
      · exact Tr.step (fun m => by rw [m_spec_l5General_l3, hl, ltN_self, cond_false, Form.gens]) Tr.val
      · intro k x zs hk hx hd ihk
        have hk2 : k < p.kids.length := by omega
        have hdr : p.kids.drop k = p.kids[k] :: p.kids.drop (k + 1) := List.drop_eq_getElem_cons hk2
        have hy : p.kids[k]? = some p.kids[k] := List.getElem?_eq_getElem hk2
        have hxw := Form.ws_mem (List.mem_of_getElem? hx)
        rw [hdr, Form.gens]
        refine Tr.step (fun m => by rw [m_spec_l5General_l3, ltN hk2, cond_true, idx_nat hy, Option.bind_some]) (Tr.bind (l4Dots_tr p.kids[k]) ?_)
        refine Tr.eq (fun m => by rw [idx_nat hx, Option.bind_some]) (Tr.bind (l4Dots_tr x) ?_)
        by_cases hxy : isDots x = isDots p.kids[k]
        case neg => rw [decide_eq_true hxy, decide_eq_true (show isDots p.kids[k] ≠ isDots x from fun h => hxy h.symm)]; exact Tr.tt rfl Tr.val
        rw [decide_eq_false (show ¬ isDots x ≠ isDots p.kids[k] from fun h => h hxy), decide_eq_false (show ¬ isDots p.kids[k] ≠ isDots x from fun h => h hxy.symm), cond_false]
        refine Tr.ff rfl (Tr.eq (fun m => by rw [Option.bind_some]) (Tr.bind (l4Dots_tr p.kids[k]) ?_))
        rw [← hxy]
        cases isDots x with
        | true => exact Tr.ff rfl (Tr.eq (fun m => by rw [succN]) ihk)
        | false =>
        rw [Bool.not_false, cond_true]
        refine Tr.tt rfl (Tr.eq (fun m => by rw [Option.bind_some, Option.bind_some]) (Tr.bind (ih x (by omega) _) ?_))
        cases x.gen lits p.kids[k] with
        | false => exact Tr.tt rfl Tr.val
        | true => exact Tr.ff rfl (Tr.eq (fun m => by rw [succN]) ihk)
    refine Tr.step (fun m => by rw [m_spec_l5General, dec_ne]) ?_
    cases decide (q.kind = 1) with
    | false => exact Tr.ff rfl j1
    | true =>
    rw [Bool.true_and]
    refine Tr.tt rfl ?_
    cases hdn : decide (q.name = dotsN) with
    | true => exact Tr.ff rfl j1
    | false =>
    rw [Bool.not_false, Bool.true_and]
    refine Tr.tt rfl (Tr.bind (l4In_tr lits q) ?_)
    cases inF lits q with
    | true => exact Tr.ff rfl j1
    | false => exact Tr.tt rfl Tr.val
noncomputable def deadB (lits : List Form) (xs : List Rule) (x : Rule) : Bool := !alls (fun r => !r.pattern.gen lits x.pattern) xs
noncomputable def deads (lits : List Form) (rules : List Rule) : Nat → List Rule → List Int
  | _, [] => []
  | k, x :: xs => (bif deadB lits (rules.take k) x then [(k : Int)] else []) ++ deads lits rules (k + 1) xs
noncomputable def deadR (rules : List Rule) (lits : List Form) : List Int := bif rulesOkB rules lits then deads lits rules 0 rules else []
theorem implDead_tr (rules : List Rule) (lits : List Form) (hr : RulesF rules) (hl : Form.fits lits) : Tr (fun m => m_impl_DeadRules m rules lits) (deadR rules lits) := by
  refine Tr.eq (fun m => by unfold m_impl_DeadRules; rfl) (Tr.bind (rulesOk_tr rules lits (fun r h => ⟨hr.fit r h, hr.pw r h, hr.tw r h⟩) hl) ?_)
  unfold deadR
  cases hro : rulesOkB rules lits with
  | false => exact Tr.tt rfl Tr.val
  | true =>
  have hlen := (rulesOk_all hro).2
  refine Tr.ff rfl ?_
  have key := drop_ind rules (fun k zs => ∀ g : List Int, g.length ≤ k → Tr (fun m => m_impl_DeadRules_l1 m rules lits g (k : Int)) (g ++ deads lits rules k zs)) ?_ ?_ 0 (Nat.zero_le _) [] (by simp)
  · exact key
  · intro g hg
    rw [deads, List.append_nil]
    exact Tr.step (fun m => by rw [m_impl_DeadRules_l1, ltN_self, cond_false]) Tr.val
  · intro k x zs hk hx hd ih g hg
    refine Tr.step (fun m => by rw [m_impl_DeadRules_l1, ltN hk, cond_true, idx_nat hx, Option.bind_some, sub_take (by omega), Option.bind_some]) ?_
    refine Tr.bind (v := deadB lits (rules.take k) x) (Tr.eq (fun m => by unfold m_slices_ContainsFunc_Rule_DeadRules_1; rfl) (Tr.bind (v := fnd (fun r => r.pattern.gen lits x.pattern) (rules.take k) 0) ?_ (Tr.of fun m => by rw [fnd_none]; rfl))) ?_
    · refine Tr.eq (fun m => by unfold m_slices_IndexFunc_Rule_DeadRules_1; rfl) ?_
      exact loop_find (L := fun m j => m_slices_IndexFunc_Rule_DeadRules_1_l1 m (rules.take k) x lits j) (E := fun m y => m_impl_DeadRules_1 m y x lits) (fun m j => by rw [m_slices_IndexFunc_Rule_DeadRules_1_l1]) (fun y _ => Tr.eq (fun m => by unfold m_impl_DeadRules_1; rfl) (Tr.bind (implGen_n lits _ y.pattern (Nat.le_refl _) x.pattern) Tr.val))
    rw [deads]
    cases deadB lits (rules.take k) x with
    | false => exact Tr.ff rfl (Tr.eq (fun m => by rw [succN]) (ih g (by omega)))
    | true =>
      rw [cond_true, ← List.append_assoc]
      refine Tr.tt rfl (Tr.chk (decide_eq_true (by simp; omega)) (Tr.eq (fun m => by rw [succN]) (ih (g ++ [(k : Int)]) (by simp; omega))))
theorem specDead_tr (rules : List Rule) (lits : List Form) (hr : RulesF rules) (hl : Form.fits lits) (hlw : Form.ws lits ≤ 2 ^ 36) : Tr (fun m => m_spec_DeadRules m rules lits) (deadR rules lits) := by
  refine Tr.eq (fun m => by unfold m_spec_DeadRules; rfl) ?_
  have hro := l5Rules_tr rules lits (fun r h => ⟨⟨hr.pw r h, (hr.fit r h).1⟩, ⟨hr.tw r h, (hr.fit r h).2⟩⟩) hl hlw
  unfold deadR
  cases hrb : rulesOkB rules lits with
  | false =>
    rw [hrb] at hro
    have no : Tr (fun m => m_spec_DeadRules_j2 m rules lits ([] : List Int) 0 false) ([] : List Int) := Tr.step (fun m => by rw [m_spec_DeadRules_j2, cond_false]) Tr.val
    refine Tr.step (fun m => by rw [m_spec_DeadRules_l1]) ?_
    cases decide ((0 : Int) < (rules.length : Int)) with
    | false => exact Tr.ff rfl no
    | true => exact Tr.tt rfl (Tr.bind hro no)
  | true =>
  rw [hrb] at hro
  have hlen := (rulesOk_all hrb).2
  have hlo : litOk lits = true := by unfold rulesOkB at hrb; simp only [Bool.and_eq_true] at hrb; exact hrb.2.2
  have key := drop_ind rules (fun k zs => ∀ g : List Int, g.length ≤ k → Tr (fun m => m_spec_DeadRules_l1 m rules lits g (k : Int)) (g ++ deads lits rules k zs)) ?_ ?_ 0 (Nat.zero_le _) [] (by simp)
  · exact key
  · intro g hg
    rw [deads, List.append_nil]
    exact Tr.step (fun m => by rw [m_spec_DeadRules_l1, ltN_self, cond_false]) (Tr.step (fun m => by rw [m_spec_DeadRules_j2, cond_false]) Tr.val)
  · intro k x zs hk hx hd ih g hg
    refine Tr.step (fun m => by rw [m_spec_DeadRules_l1, ltN hk, cond_true]) (Tr.bind hro (Tr.step (fun m => by rw [m_spec_DeadRules_j2, cond_true]) ?_))
    have j3 : ∀ b, b = deadB lits (rules.take k) x → Tr (fun m => m_spec_DeadRules_j3 m rules lits g (k : Int) b) (g ++ deads lits rules k (x :: zs)) := by
      intro b hb
      rw [deads, ← hb]
      refine Tr.step (fun m => by rw [m_spec_DeadRules_j3, w64_in (by omega), succN]) ?_
      cases b with
      | false => exact Tr.ff rfl (ih g (by omega))
      | true =>
        rw [cond_true, ← List.append_assoc]
        exact Tr.tt rfl (Tr.chk (decide_eq_true (by simp; omega)) (ih (g ++ [(k : Int)]) (by simp; omega)))
    have hlt : (rules.take k).length = k := by rw [List.length_take]; omega
    have inner := drop_ind (rules.take k) (fun j us => (!alls (fun r => !r.pattern.gen lits x.pattern) us) = deadB lits (rules.take k) x → Tr (fun m => m_spec_DeadRules_l4 m rules lits g (k : Int) false (j : Int)) (g ++ deads lits rules k (x :: zs))) ?_ ?_ 0 (Nat.zero_le _) rfl
    · exact inner
    · intro hb
      rw [hlt]
      exact Tr.step (fun m => by rw [m_spec_DeadRules_l4, ltN_self, cond_false]) (Tr.step (fun m => by rw [m_spec_DeadRules_j5, cond_false]) (j3 false hb))
    · intro j y zs' hj hy hd' ihj hb
      have hjk : j < k := by omega
      have hy2 : rules[j]? = some y := by rw [List.getElem?_take_of_lt hjk] at hy; exact hy
      refine Tr.step (fun m => by rw [m_spec_DeadRules_l4, ltI (by omega : (j : Int) < (k : Int)), cond_true, Bool.not_false]) (Tr.step (fun m => by rw [m_spec_DeadRules_j5, cond_true, idx_nat hx, Option.bind_some, idx_nat hy2, Option.bind_some]) ?_)
      refine Tr.bind (specGen_n lits hlo _ y.pattern (Nat.le_refl _) x.pattern) ?_
      rw [alls] at hb
      refine Tr.eq (fun m => by rw [w64_in (by omega), succN]) ?_
      cases hgen : y.pattern.gen lits x.pattern with
      | false => rw [hgen] at hb; exact ihj hb
      | true =>
        rw [hgen] at hb
        refine Tr.step (fun m => by rw [m_spec_DeadRules_l4, Bool.not_true]) ?_
        exact Tr.step (fun m => by rw [m_spec_DeadRules_j5, cond_false]; cases decide (((j + 1 : Nat) : Int) < (k : Int)) <;> rfl) (j3 true hb)
end Go.Abs
end
section
set_option linter.unusedVariables false
set_option linter.unusedSimpArgs false
set_option maxHeartbeats 4000000
namespace Go.Abs
section
variable {α : Type}
theorem mk_lt_mid (d : List α) (x : α) (xs : List α) : decide ((d.length : Int) < ((d ++ x :: xs).length : Int)) = true := by simp; omega
theorem mk_lt_end (d : List α) : decide ((d.length : Int) < ((d ++ []).length : Int)) = false := by simp
theorem mk_idx_mid (d : List α) (x : α) (xs : List α) : idx (d ++ x :: xs) (d.length : Int) = some x := idx_nat (by simp)
theorem mk_set_mid (d : List α) (x y : α) (xs : List α) : (d ++ x :: xs).set ((d.length : Int)).toNat y = d ++ y :: xs := by simp
theorem mk_mid_app (d : List α) (y : α) (xs : List α) : d ++ y :: xs = (d ++ [y]) ++ xs := by simp
theorem mk_mid_len (d : List α) (y : α) : (d.length : Int) + 1 = ((d ++ [y]).length : Int) := by simp
theorem mk_mid_lenw (d : List α) (y : α) (h : d.length ≤ 4611686018427387904) : w64 ((d.length : Int) + 1) = ((d ++ [y]).length : Int) := by
  rw [w64_in (by omega)]; simp
end
theorem mk_wIn {k : Int} (h0 : 0 ≤ k) (h1 : k ≤ 4611686018427387904) : w64 (k + 1) = k + 1 := w64_in (by omega)
theorem mk_ne_self_f {α : Type} [DecidableEq α] (x : α) : decide (x ≠ x) = false := by simp
theorem mk_not_neg {k : Int} (h : 0 ≤ k) : decide (k < 0) = false := by simpa using h
theorem markText_loop : ∀ (n : Nat) (k : Nat) (s : ByteArray), k < 2 ^ n → s.size + n ≤ 1000 → n ≤ 63 → ∃ t, Tr (fun m => m_laws_markText_l1 m (k : Int) s) t := by
  intro n
  induction n with
  | zero =>
    intro k s hk hs hn
    have : k = 0 := by omega
    subst this
    refine ⟨(⟨#[109]⟩ : ByteArray) ++ s, Tr.step (fun m => by rw [m_laws_markText_l1, show decide ((0 : Int) < ((0 : Nat) : Int)) = false from rfl, cond_false]) (Tr.of fun m => ?_)⟩
    · rw [bcat, decide_eq_true (by have : (⟨#[109]⟩ : ByteArray).size = 1 := rfl; omega)]; rfl
  | succ n ih =>
    intro k s hk hs hn
    by_cases h0 : k = 0
    · subst h0
      refine ⟨(⟨#[109]⟩ : ByteArray) ++ s, Tr.step (fun m => by rw [m_laws_markText_l1, show decide ((0 : Int) < ((0 : Nat) : Int)) = false from rfl, cond_false]) (Tr.of fun m => ?_)⟩
      · rw [bcat, decide_eq_true (by have : (⟨#[109]⟩ : ByteArray).size = 1 := rfl; omega)]; rfl
    · have hk2 : k / 10 < 2 ^ n := by rw [Nat.pow_succ] at hk; omega
      have hp : (2 : Nat) ^ (n + 1) ≤ 2 ^ 63 := Nat.pow_le_pow_right (by omega) (by omega)
      have hsz : (strOf [(w8 (w64 (48 + ((k : Int).tmod 10))))]).size = 1 := rfl
      have hsz2 : (strOf [(w8 (w64 (48 + ((k : Int).tmod 10))))] ++ s).size = 1 + s.size := by rw [ByteArray.size_append, hsz]
      obtain ⟨t, ht⟩ := ih (k / 10) (strOf [(w8 (w64 (48 + ((k : Int).tmod 10))))] ++ s) hk2 (by rw [hsz2]; omega) (by omega)
      refine ⟨t, Tr.step (fun m => by rw [m_laws_markText_l1, decide_eq_true (show (0 : Int) < (k : Int) by omega), cond_true, bcat, decide_eq_true (by rw [hsz]; omega), cond_true, Option.bind_some]) ?_⟩
      refine Tr.eq (fun m => ?_) ht
      have : w64 ((k : Int).tdiv 10) = ((k / 10 : Nat) : Int) := by
        rw [show ((k : Int).tdiv 10) = ((k / 10 : Nat) : Int) from rfl, w64_in (by omega)]
      rw [this]
theorem markText_tr {k : Int} (h0 : 0 ≤ k) (h1 : k ≤ 4611686018427387905) : ∃ t, Tr (fun m => m_laws_markText m k) t := by
  by_cases hk : k ≤ 0
  · exact ⟨_, Tr.of fun m => by rw [m_laws_markText, decide_eq_true hk]; rfl⟩
  · obtain ⟨n, rfl⟩ := Int.eq_ofNat_of_zero_le h0
    obtain ⟨t, ht⟩ := markText_loop 63 n ⟨#[]⟩ (by omega) (by decide) (Nat.le_refl _)
    exact ⟨t, Tr.eq (fun m => by rw [m_laws_markText, decide_eq_false hk, cond_false]) ht⟩
def MH {α : Type} (M : Nat → List α → Int → Option (Int × List α)) (H : Nat → List α → Int → Option Int) (l : List α) (b : Nat) : Prop :=
  ∀ k : Int, 0 ≤ k → k + b ≤ 4611686018427387904 → ∃ v ys, Tr (fun m => M m l k) (v, ys) ∧ k ≤ v ∧ v ≤ k + b ∧ Tr (fun m => H m ys k) v
theorem markInt_loop : ∀ (xs d : List Int) (k : Int), 0 ≤ k → k + xs.length ≤ 4611686018427387904 → ∃ v ys, Tr (fun m => m_laws_markIntS_l1 m k (d.length : Int) (d ++ xs)) (v, d ++ ys) ∧ k ≤ v ∧ v ≤ k + xs.length ∧ ∀ d' : List Int, Tr (fun m => m_laws_heldIntS_l1 m (d' ++ ys) k (d'.length : Int)) v
  | [], d, k, h0, h1 => ⟨k, [], Tr.step (fun m => by rw [m_laws_markIntS_l1, mk_lt_end, cond_false]) Tr.val, Int.le_refl _, by omega, fun d' => Tr.step (fun m => by rw [m_laws_heldIntS_l1, mk_lt_end, cond_false]) Tr.val⟩
  | x :: xs, d, k, h0, h1 => by
    rw [List.length_cons] at h1
    obtain ⟨v, ys, a1, a2, a3, a4⟩ := markInt_loop xs (d ++ [k]) (k + 1) (by omega) (by omega)
    refine ⟨v, k :: ys, ?_, by omega, by rw [List.length_cons]; omega, fun d' => ?_⟩
    · refine Tr.step (fun m => by rw [m_laws_markIntS_l1, mk_lt_mid, cond_true, mk_idx_mid, Option.bind_some, mk_set_mid]) ?_
      refine Tr.eq (fun m => ?_) (mk_mid_app d k ys ▸ a1)
      rw [mk_wIn h0 (by omega), mk_mid_len d k, mk_mid_app d k xs]
    · refine Tr.step (fun m => by rw [m_laws_heldIntS_l1, mk_lt_mid, cond_true, mk_idx_mid, Option.bind_some, mk_ne_self_f, cond_false]) ?_
      refine Tr.eq (fun m => ?_) (a4 (d' ++ [k]))
      rw [mk_wIn h0 (by omega), mk_mid_len d' k, mk_mid_app d' k ys]
theorem mhInt (l : List Int) : MH m_laws_markIntS m_laws_heldIntS l l.length := fun k h0 h1 => by
  obtain ⟨v, ys, a1, a2, a3, a4⟩ := markInt_loop l [] k h0 h1
  exact ⟨v, ys, Tr.eq (fun m => by unfold m_laws_markIntS; rfl) a1, a2, a3, Tr.eq (fun m => by unfold m_laws_heldIntS; rfl) (a4 [])⟩
theorem markForm_loop : ∀ (xs d : List Form) (k : Int), (∀ x ∈ xs, MH m_laws_markFormS m_laws_heldFormS x.kids (3 * Form.ws x.kids)) → d.length + xs.length ≤ 4611686018427387904 → 0 ≤ k → k + (3 * Form.ws xs : Nat) ≤ 4611686018427387904 →
    ∃ v ys, Tr (fun m => m_laws_markFormS_l1 m k (d.length : Int) (d ++ xs)) (v, d ++ ys) ∧ k ≤ v ∧ v ≤ k + (3 * Form.ws xs : Nat) ∧ ∀ d' : List Form, Tr (fun m => m_laws_heldFormS_l1 m (d' ++ ys) k (d'.length : Int)) v
  | [], d, k, ih, hl, h0, h1 => ⟨k, [], Tr.step (fun m => by rw [m_laws_markFormS_l1, mk_lt_end, cond_false]) Tr.val, Int.le_refl _, by omega, fun d' => Tr.step (fun m => by rw [m_laws_heldFormS_l1, mk_lt_end, cond_false]) Tr.val⟩
  | .mk kd nm nn sc ks :: xs, d, k, ih, hl, h0, h1 => by
    rw [Form.ws, Form.w] at h1
    rw [List.length_cons] at hl
    obtain ⟨t, ht⟩ := markText_tr (k := k + 1) (by omega) (by omega)
    obtain ⟨v1, a, b1, b2, b3, b4⟩ := mhInt sc (k + 1 + 1 + 1) (by omega) (by omega)
    obtain ⟨v2, b, c1, c2, c3, c4⟩ := ih _ (List.mem_cons_self ..) v1 (by omega) (by show v1 + (3 * Form.ws ks : Nat) ≤ _; omega)
    have c3' : v2 ≤ v1 + (3 * Form.ws ks : Nat) := c3
    obtain ⟨v, ys, a1, a2, a3, a4⟩ := markForm_loop xs (d ++ [.mk k t (k + 1 + 1) a b]) v2 (fun x hx => ih x (List.mem_cons_of_mem _ hx)) (by simp; omega) (by omega) (by omega)
    have e1 := mk_wIn h0 (by omega)
    have e2 := mk_wIn (k := k + 1) (by omega) (by omega)
    have e3 := mk_wIn (k := k + 1 + 1) (by omega) (by omega)
    refine ⟨v, .mk k t (k + 1 + 1) a b :: ys, ?_, by omega, by rw [Form.ws, Form.w]; omega, fun d' => ?_⟩
    · refine Tr.step (fun m => by rewrite [m_laws_markFormS_l1]; simp only [Form.kind, Form.name, Form.n, Form.scopes, Form.kids, mk_lt_mid, cond_true, mk_idx_mid, Option.bind_some, mk_set_mid, e1, e2, e3]; rfl) ?_
      refine Tr.bind ht ?_
      refine Tr.bind b1 ?_
      refine Tr.bind c1 ?_
      refine Tr.eq (fun m => ?_) (mk_mid_app d (.mk k t (k + 1 + 1) a b) ys ▸ a1)
      rw [← mk_mid_app, ← mk_mid_lenw _ _ (by omega)]
    · refine Tr.step (fun m => by rewrite [m_laws_heldFormS_l1]; simp only [Form.kind, Form.name, Form.n, Form.scopes, Form.kids, mk_lt_mid, cond_true, mk_idx_mid, Option.bind_some, e1, e2, e3]; rfl) ?_
      refine Tr.ff (mk_ne_self_f k) ?_
      refine Tr.bind ht (Tr.ff (mk_ne_self_f t) (Tr.ff (mk_ne_self_f (k + 1 + 1)) ?_))
      refine Tr.bind b4 (Tr.ff (mk_not_neg (by omega)) ?_)
      refine Tr.bind c4 (Tr.ff (mk_not_neg (by omega)) ?_)
      refine Tr.eq (fun m => ?_) (a4 (d' ++ [.mk k t (k + 1 + 1) a b]))
      rw [← mk_mid_app, ← mk_mid_len]
theorem mhForm_n : ∀ (n : Nat) (l : List Form), Form.ws l ≤ n → MH m_laws_markFormS m_laws_heldFormS l (3 * Form.ws l) := by
  intro n
  induction n with
  | zero =>
    intro l hl k h0 h1
    have hx := Form.ws_len l
    have : l = [] := List.eq_nil_of_length_eq_zero (by omega)
    subst this
    obtain ⟨v, ys, a1, a2, a3, a4⟩ := markForm_loop [] [] k (fun x hx => by cases hx) (by simp) h0 h1
    exact ⟨v, ys, Tr.step (fun m => by rw [m_laws_markFormS]; rfl) a1, a2, a3, Tr.step (fun m => by rw [m_laws_heldFormS]; rfl) (a4 [])⟩
  | succ n ih =>
    intro l hl k h0 h1
    have hx := Form.ws_len l
    obtain ⟨v, ys, a1, a2, a3, a4⟩ := markForm_loop l [] k (fun x hx => ih _ (by
      have := Form.ws_mem hx
      obtain ⟨p1, p2, p3, p4, p5⟩ := x
      rw [Form.w] at this
      show Form.ws p5 ≤ n
      omega)) (by simp only [List.length_nil]; omega) h0 h1
    exact ⟨v, ys, Tr.step (fun m => by rw [m_laws_markFormS]; rfl) a1, a2, a3, Tr.step (fun m => by rw [m_laws_heldFormS]; rfl) (a4 [])⟩
theorem mhForms (l : List Form) : MH m_laws_markFormS m_laws_heldFormS l (3 * Form.ws l) := mhForm_n _ l (Nat.le_refl _)
def Rule.mws : List Rule → Nat
  | [] => 0
  | r :: rs => 1 + r.pattern.w + r.template.w + Rule.mws rs
theorem Rule.mws_len : ∀ l : List Rule, l.length ≤ Rule.mws l
  | [] => Nat.le_refl _
  | r :: rs => by have := Rule.mws_len rs; rw [Rule.mws, List.length_cons]; omega
theorem markRule_loop : ∀ (xs d : List Rule) (k : Int), d.length + xs.length ≤ 4611686018427387904 → 0 ≤ k → k + (3 * Rule.mws xs : Nat) ≤ 4611686018427387904 →
    ∃ v ys, Tr (fun m => m_laws_markRuleS_l1 m k (d.length : Int) (d ++ xs)) (v, d ++ ys) ∧ k ≤ v ∧ v ≤ k + (3 * Rule.mws xs : Nat) ∧ ∀ d' : List Rule, Tr (fun m => m_laws_heldRuleS_l1 m (d' ++ ys) k (d'.length : Int)) v
  | [], d, k, hl, h0, h1 => ⟨k, [], Tr.step (fun m => by rw [m_laws_markRuleS_l1, mk_lt_end, cond_false]) Tr.val, Int.le_refl _, by omega, fun d' => Tr.step (fun m => by rw [m_laws_heldRuleS_l1, mk_lt_end, cond_false]) Tr.val⟩
  | .mk (.mk kd nm nn sc ks) (.mk kd' nm' nn' sc' ks') :: xs, d, k, hl, h0, h1 => by
    rw [Rule.mws, Rule.pattern, Rule.template, Form.w, Form.w] at h1
    rw [List.length_cons] at hl
    obtain ⟨t, ht⟩ := markText_tr (k := k + 1) (by omega) (by omega)
    obtain ⟨v1, a, b1, b2, b3, b4⟩ := mhInt sc (k + 1 + 1 + 1) (by omega) (by omega)
    obtain ⟨v2, b, c1, c2, c3, c4⟩ := mhForms ks v1 (by omega) (by omega)
    obtain ⟨t', ht'⟩ := markText_tr (k := v2 + 1) (by omega) (by omega)
    obtain ⟨v3, a', d1, d2, d3, d4⟩ := mhInt sc' (v2 + 1 + 1 + 1) (by omega) (by omega)
    obtain ⟨v5, b', e1, e2, e3, e4⟩ := mhForms ks' v3 (by omega) (by omega)
    obtain ⟨v, ys, a1, a2, a3, a4⟩ := markRule_loop xs (d ++ [.mk (.mk k t (k + 1 + 1) a b) (.mk v2 t' (v2 + 1 + 1) a' b')]) v5 (by simp; omega) (by omega) (by omega)
    have w1 := mk_wIn h0 (by omega)
    have w2 := mk_wIn (k := k + 1) (by omega) (by omega)
    have w3 := mk_wIn (k := k + 1 + 1) (by omega) (by omega)
    have w4 := mk_wIn (k := v2) (by omega) (by omega)
    have w5 := mk_wIn (k := v2 + 1) (by omega) (by omega)
    have w6 := mk_wIn (k := v2 + 1 + 1) (by omega) (by omega)
    refine ⟨v, .mk (.mk k t (k + 1 + 1) a b) (.mk v2 t' (v2 + 1 + 1) a' b') :: ys, ?_, by omega, by rw [Rule.mws, Rule.pattern, Rule.template, Form.w, Form.w]; omega, fun d' => ?_⟩
    · refine Tr.step (fun m => by rewrite [m_laws_markRuleS_l1]; simp only [Form.kind, Form.name, Form.n, Form.scopes, Form.kids, Rule.pattern, Rule.template, mk_lt_mid, cond_true, mk_idx_mid, Option.bind_some, mk_set_mid, w1, w2, w3]; rfl) ?_
      refine Tr.bind ht (Tr.bind b1 (Tr.bind c1 ?_))
      refine Tr.eq (fun m => by simp only [w4, w5, w6]; rfl) (Tr.bind ht' ?_)
      refine Tr.bind d1 (Tr.bind e1 ?_)
      refine Tr.eq (fun m => ?_) (mk_mid_app d (.mk (.mk k t (k + 1 + 1) a b) (.mk v2 t' (v2 + 1 + 1) a' b')) ys ▸ a1)
      rw [← mk_mid_app, ← mk_mid_lenw _ _ (by omega)]
    · refine Tr.step (fun m => by rewrite [m_laws_heldRuleS_l1]; simp only [Form.kind, Form.name, Form.n, Form.scopes, Form.kids, Rule.pattern, Rule.template, mk_lt_mid, cond_true, mk_idx_mid, Option.bind_some, w1, w2, w3]; rfl) ?_
      refine Tr.ff (mk_ne_self_f k) ?_
      refine Tr.bind ht (Tr.ff (mk_ne_self_f t) (Tr.ff (mk_ne_self_f (k + 1 + 1)) ?_))
      refine Tr.bind b4 (Tr.ff (mk_not_neg (by omega)) ?_)
      refine Tr.bind c4 (Tr.ff (mk_not_neg (by omega)) ?_)
      refine Tr.eq (fun m => by simp only [w4, w5, w6]; rfl) ?_
      refine Tr.ff (mk_ne_self_f v2) ?_
      refine Tr.bind ht' (Tr.ff (mk_ne_self_f t') (Tr.ff (mk_ne_self_f (v2 + 1 + 1)) ?_))
      refine Tr.bind d4 (Tr.ff (mk_not_neg (by omega)) ?_)
      refine Tr.bind e4 (Tr.ff (mk_not_neg (by omega)) ?_)
      refine Tr.eq (fun m => ?_) (a4 (d' ++ [.mk (.mk k t (k + 1 + 1) a b) (.mk v2 t' (v2 + 1 + 1) a' b')]))
      rw [← mk_mid_app, ← mk_mid_len]
theorem mhRules (l : List Rule) : MH m_laws_markRuleS m_laws_heldRuleS l (3 * Rule.mws l) := fun k h0 h1 => by
  have hx := Rule.mws_len l
  obtain ⟨v, ys, a1, a2, a3, a4⟩ := markRule_loop l [] k (by simp only [List.length_nil]; omega) h0 h1
  exact ⟨v, ys, Tr.eq (fun m => by unfold m_laws_markRuleS; rfl) a1, a2, a3, Tr.eq (fun m => by unfold m_laws_heldRuleS; rfl) (a4 [])⟩
end Go.Abs
end
section
set_option linter.unusedVariables false
set_option linter.unusedSimpArgs false
namespace Go.Abs
theorem Rule.mws_wt : ∀ l : List Rule, Rule.mws l ≤ 3 * l.length + 2 * sumW Rule.wt l
  | [] => Nat.zero_le _
  | r :: rs => by
    have h := Rule.mws_wt rs
    have a := r.pattern.w_wt
    have b := r.template.w_wt
    have e : r.wt = r.pattern.wt + r.template.wt := rfl
    rw [Rule.mws, List.length_cons, sumW]; omega
theorem deads_len (lits : List Form) (rules : List Rule) : ∀ (l : List Rule) (k : Nat), (deads lits rules k l).length ≤ l.length
  | [], k => Nat.le_refl _
  | x :: xs, k => by
    have := deads_len lits rules xs (k + 1)
    rw [deads, List.length_append, List.length_cons]
    cases deadB lits (rules.take k) x with
    | true => rw [cond_true, List.length_cons, List.length_nil]; omega
    | false => rw [cond_false, List.length_nil]; omega
theorem deadR_len (rules : List Rule) (lits : List Form) : (deadR rules lits).length ≤ rules.length := by
  unfold deadR
  cases rulesOkB rules lits with
  | true => exact deads_len _ _ _ _
  | false => exact Nat.zero_le _
theorem eqIntS_self (l : List Int) : Tr (fun m => m_laws_eqIntS m l l) true := by have := eqIntS_tr l l; rwa [same_self] at this
theorem FnExactDeadRules_law (rules : List Rule) (lits : List Form) (hrl : rules.length ≤ 9223372036854775807) (hr : ∀ r ∈ rules, r.fit) (hll : lits.length ≤ 9223372036854775807) (hl : Form.fits lits) : TQ (fun m => m_laws_FnExactDeadRules m rules lits) (fun r => r = true) := by
  refine TQ.eq (fun m => by unfold m_laws_FnExactDeadRules; rfl) (TQ.bind (szRuleS_tq rules 1048576 hrl hr (by omega) (by omega)) (fun v hv => ?_))
  rcases hv with rfl | ⟨h0, rfl⟩
  · exact TQ.cond (fun _ => TQ.val rfl) (fun h => absurd h (by decide))
  refine TQ.cond (fun h => absurd h (by rw [geZ h0]; decide)) (fun _ => TQ.bind (szFormS_tq lits _ hll hl h0 (by omega)) (fun v hv => ?_))
  rcases hv with rfl | ⟨h1, rfl⟩
  · exact TQ.cond (fun _ => TQ.val rfl) (fun h => absurd h (by decide))
  refine TQ.cond (fun h => absurd h (by rw [geZ h1]; decide)) (fun _ => ?_)
  have hws := Form.ws_wts lits
  have hrw : ∀ r ∈ rules, r.pattern.w ≤ 2 ^ 36 ∧ r.template.w ≤ 2 ^ 36 := fun r hr => by
    have h := sumW_mem (W := Rule.wt) hr
    have e : r.wt = r.pattern.wt + r.template.wt := rfl
    have a := r.pattern.w_wt
    have b := r.template.w_wt
    omega
  have hmw := Rule.mws_wt rules
  have hdl := deadR_len rules lits
  have hR : RulesF rules := ⟨hr, fun r h => (hrw r h).1, fun r h => (hrw r h).2⟩
  have tr := toRuleS_tr rules (by omega) hrw
  have tf := toFormS_tr lits (by omega)
  have ti := implDead_tr rules lits hR hl
  have es := eqIntS_self (deadR rules lits)
  refine ⟨true, ?_, rfl⟩
  obtain ⟨v1, q1, m1, m2, m3, m4⟩ := mhRules rules 1 (by omega) (by omega)
  obtain ⟨v2, q2, n1, n2, n3, n4⟩ := mhForms lits v1 (by omega) (by omega)
  obtain ⟨v, ys, a1, a2, a3, a4⟩ := mhInt (deadR rules lits) 1 (by omega) (by omega)
  refine Tr.bind tr (Tr.bind tf (Tr.bind (specDead_tr rules lits hR hl (by omega)) (Tr.bind tr (Tr.bind tf (Tr.bind ti (Tr.bind es (Tr.ff rfl ?_)))))))
  refine Tr.bind tr (Tr.bind (eqRuleS_self rules) (Tr.ff rfl (Tr.bind tf (Tr.bind (eqFormS_self lits) (Tr.ff rfl (Tr.bind m1 (Tr.bind n1 (Tr.ff (mk_not_neg (by show 0 ≤ v2; omega)) (Tr.bind es ?_)))))))))
  refine Tr.step (fun m => by rw [m_laws_FnExactDeadRules_j1]) ?_
  refine Tr.ff rfl ?_
  refine Tr.bind a1 (Tr.bind a4 (Tr.ff (mk_not_neg (by omega)) (Tr.ff (mk_ne_self_f v) ?_)))
  refine Tr.bind tr (Tr.bind tf (Tr.bind ti (Tr.bind es (Tr.ff rfl ?_))))
  exact Tr.bind a4 (Tr.ff (mk_not_neg (by omega)) (Tr.ff (mk_ne_self_f v) Tr.val))
end Go.Abs
end
