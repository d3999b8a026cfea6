/- A part of the proof: what the functions that the law calls answer, as pure values. -/
import Derived.Test.YtcebadpiebamdaaGreatKfbd980a3bd19
import Derived.Test.YtcebadpiebamdaaGreatK423f84c32d54
import Derived.Test.YtcebadpiebamdaaGreatKec1b6f882092
import Derived.Test.YtcebadpiebamdaaGreatKf37186a4b7f9
import Derived.Test.YtcebadpiebamdaaGreatK3c12e1c5a40a
set_option linter.unusedSimpArgs false
set_option linter.unusedVariables false
section
set_option linter.unusedVariables false
set_option linter.unusedSimpArgs false
namespace Go.Abs
theorem loop_app {α β γ : Type} {xs : List α} {c : Nat} {f : α → β} {L : Nat → Int → List β → Option γ} {E : Nat → α → Option β} {fin : List β → γ}
    (h0 : ∀ m k acc, L (m + 1) k acc = bif decide (k < (xs.length : Int)) then (idx xs k).bind fun a => (E m a).bind fun v => chk (decide ((acc.length + [v].length) * c ≤ 140737488355328)) (L m (k + 1) (acc ++ [v])) else some (fin acc))
    (hE : ∀ a ∈ xs, Tr (fun m => E m a) (f a)) (acc0 : List β) (hb : (acc0.length + xs.length) * c ≤ 140737488355328) : Tr (fun m => L m 0 acc0) (fin (acc0 ++ xs.map f)) := by
  have key := zae xs (fun k zs => ∀ acc : List β, (acc.length + zs.length) * c ≤ 140737488355328 → Tr (fun m => L m (k : Int) acc) (fin (acc ++ zs.map f))) ?_ ?_ 0 (Nat.zero_le _) acc0 (by simpa using hb)
  · simpa using key
  · intro acc _
    refine Tr.step (fun m => by rw [h0, zac, cond_false]) ?_
    rw [List.map_nil, List.append_nil]; exact Tr.val
  · intro k x zs hk hx hd ih acc hc
    refine Tr.step (fun m => by rw [h0, ltN hk, cond_true, zP hx, Option.bind_some, zcJ]) ?_
    refine Tr.bind (hE x (List.mem_of_getElem? hx)) ?_
    have C1 : (acc.length + 1) * c ≤ 140737488355328 := Nat.le_trans (Nat.mul_le_mul_right c (by simp)) hc
    refine Tr.chk (decide_eq_true (by simpa using C1)) ?_
    have := ih (acc ++ [f x]) (by
      refine Nat.le_trans (Nat.mul_le_mul_right c ?_) hc
      simp; omega)
    rwa [List.append_assoc] at this
theorem clone_tr (l : List Int) (h : l.length ≤ 2 ^ 36) : Tr (fun m => zb6 m l) l :=
  Tr.eq (fun m => by unfold zb6; rfl) (Tr.chk (decide_eq_true (by simp; omega)) Tr.val)
theorem copyForm_n : ∀ (n : Nat) (f : Form), f.w ≤ n → f.w ≤ 2 ^ 36 → Tr (fun m => zai m f) f := by
  intro n
  induction n with
  | zero => intro f h _; have := f.w_kids; omega
  | succ n ih =>
    intro f h hb
    have hw := f.w_kids
    have hl := Form.ws_len f.kids
    refine Tr.step (fun m => by rw [zai]) (Tr.bind (clone_tr _ (by omega)) ?_)
    have := loop_app (xs := f.kids) (c := 80) (f := fun x => x) (L := fun m k acc => zaR m f f.scopes k acc) (E := fun m a => zai m a) (fin := fun g => Form.mk f.kind f.name f.n f.scopes g)
      (fun m k acc => by rw [zaR]) (fun a ha => ih a (by have := Form.ws_mem ha; omega) (by have := Form.ws_mem ha; omega)) [] (by simp; omega)
    rw [List.map_id', List.nil_append] at this
    obtain ⟨a, b, c, d, e⟩ := f
    exact this
theorem copyForm_tr (f : Form) (h : f.w ≤ 2 ^ 36) : Tr (fun m => zai m f) f := copyForm_n _ f (Nat.le_refl _) h
mutual
noncomputable def Form.part (x : Form) : Form → Bool
  | .mk a b c d kids => same (Form.mk a b c d kids) x || Form.parts x kids
noncomputable def Form.parts (x : Form) : List Form → Bool
  | [] => false
  | y :: ys => Form.part x y || Form.parts x ys
end
theorem Form.part_eq (x f : Form) : Form.part x f = (same f x || Form.parts x f.kids) := by obtain ⟨a, b, c, d, e⟩ := f; rw [Form.part]; rfl
theorem parts_mem {x : Form} : ∀ {l : List Form} {y : Form}, y ∈ l → Form.part x y = true → Form.parts x l = true
  | z :: l, y, hy, h => by
    rw [Form.parts, Bool.or_eq_true]
    rcases List.mem_cons.1 hy with rfl | hy
    · exact .inl h
    · exact .inr (parts_mem hy h)
end Go.Abs
end
section
set_option linter.unusedVariables false
set_option linter.unusedSimpArgs false
namespace Go.Abs
noncomputable def hAt (l : List Hit) (f : Form) : Int := fnd (fun x => same x.name f) l 0
theorem fnd_at {α : Type} {D : α → Bool} : ∀ {l : List α} {k : Nat}, (fnd D l k = -1 ∧ ∀ x ∈ l, D x = false) ∨ ∃ i x, fnd D l k = ((k + i : Nat) : Int) ∧ l[i]? = some x ∧ D x = true ∧ ∀ y ∈ l.take i, D y = false
  | [], k => .inl ⟨rfl, fun x hx => by cases hx⟩
  | z :: l, k => by
    rw [fnd]
    cases h : D z with
    | true => exact .inr ⟨0, z, rfl, rfl, h, fun y hy => by cases hy⟩
    | false =>
      rw [cond_false]
      rcases fnd_at (D := D) (l := l) (k := k + 1) with ⟨h1, h2⟩ | ⟨i, x, h1, h2, h3, h4⟩
      · exact .inl ⟨h1, fun x hx => by
          rcases List.mem_cons.1 hx with rfl | hx
          · exact h
          · exact h2 x hx⟩
      · exact .inr ⟨i + 1, x, by rw [h1]; congr 1; omega, by simpa using h2, h3, fun y hy => by
          rw [List.take_succ_cons] at hy
          rcases List.mem_cons.1 hy with rfl | hy
          · exact h
          · exact h4 y hy⟩
def hit0 : Hit := Hit.mk (Form.mk 0 (⟨#[]⟩ : ByteArray) 0 ([] : List Int) ([] : List Form)) 0 (Form.mk 0 (⟨#[]⟩ : ByteArray) 0 ([] : List Int) ([] : List Form)) ([] : List Hit)
end Go.Abs
end
section
set_option linter.unusedVariables false
set_option linter.unusedSimpArgs false
namespace Go.Abs
def anys {α : Type} (D : α → Bool) : List α → Bool
  | [] => false
  | x :: xs => D x || anys D xs
theorem anys_iff {α : Type} {D : α → Bool} : ∀ {l : List α}, anys D l = true ↔ ∃ x ∈ l, D x = true
  | [] => by simp [anys]
  | x :: xs => by rw [anys, Bool.or_eq_true, anys_iff]; simp
def hasB (l : List Int) (n : Int) : Bool := anys (fun x => decide (x = n)) l
def withinB (a b : List Int) : Bool := alls (fun x => hasB b x) a
def bind0 : Bind := Bind.mk (⟨#[]⟩ : ByteArray) [] 0
def bAt (l : List Bind) (i : Int) : Bind := l.getD i.toNat bind0
def fitB (f : Form) (b : Bind) : Bool := decide (b.name = f.name) && withinB b.scopes f.scopes
def fitsF (f : Form) : List Bind → Nat → List Int
  | [], _ => []
  | b :: bs, k => (bif fitB f b then [(k : Int)] else []) ++ fitsF f bs (k + 1)
def fitsB (l : List Bind) (f : Form) : List Int := fitsF f l 0
def bestB (l : List Bind) (fits : List Int) (i : Int) : Bool := alls (fun j => withinB (bAt l j).scopes (bAt l i).scopes) fits
def firstB (l : List Bind) (fits : List Int) : List Int → Option Int
  | [] => none
  | i :: is => bif bestB l fits i then some i else firstB l fits is
def refB (l : List Bind) (f : Form) : Int × Int :=
  match firstB l (fitsB l f) (fitsB l f) with
  | some i => (i, 1)
  | none => (0, bif decide (0 < ((fitsB l f).length : Int)) then 2 else 0)
def refS (l : List Bind) (a b : Form) : Bool :=
  decide ((refB l a).2 = (refB l b).2) && (!decide ((refB l a).2 = 2) && (bif decide ((refB l a).2 = 0) then decide (a.name = b.name) else decide ((bAt l (refB l a).1).id = (bAt l (refB l b).1).id)))
end Go.Abs
end
section
set_option linter.unusedVariables false
set_option linter.unusedSimpArgs false
namespace Go.Abs
def rowH : Nat → List (Form × Int) → List (List Hit) → List Hit
  | _, [], _ => []
  | k, v :: vs, rows => Hit.mk v.1 (v.2 + 1) form0 (rows.map fun r => r.getD k hit0) :: rowH (k + 1) vs rows
def allM {α β : Type} (D : α → Option β) : List α → Option (List β)
  | [] => some []
  | x :: xs => match D x with
    | none => none
    | some y => match allM D xs with
      | none => none
      | some ys => some (y :: ys)
def oapp {α : Type} : Option (List α) → Option (List α) → Option (List α)
  | some a, some b => some (a ++ b)
  | _, _ => none
mutual
noncomputable def Form.mt (bs : List Bind) (lits : List Form) : Form → Form → Option (List Hit)
  | .mk k nm n sc kids, f =>
    bif decide (k = 1) then
      bif decide (nm = underN) then some []
      else bif inF lits (.mk k nm n sc kids) then (bif decide (f.kind = 1) && refS bs (.mk k nm n sc kids) f then some [] else none)
      else some [Hit.mk (.mk k nm n sc kids) 0 f []]
    else bif decide (k = 2) then (bif same (.mk k nm n sc kids) f then some [] else none)
    else bif decide (f.kind ≠ 3) then none else Form.mts bs lits kids f.kids
noncomputable def Form.mts (bs : List Bind) (lits : List Form) : List Form → List Form → Option (List Hit)
  | [], fs => bif decide (fs.length = 0) then some [] else none
  | p :: ps, fs =>
    bif zab p then Form.mts bs lits ps fs
    else bif zht ps then
      bif decide (fs.length + 1 < ps.length) then none
      else match allM (fun f => Form.mt bs lits p f) (fs.take (fs.length + 1 - ps.length)) with
        | none => none
        | some rows => oapp (some (rowH 0 (p.vd lits 0) rows)) (Form.mts bs lits ps (fs.drop (fs.length + 1 - ps.length)))
    else match fs with
      | [] => none
      | f :: fs' => oapp (Form.mt bs lits p f) (Form.mts bs lits ps fs')
end
structure PatS (p : Form) : Prop where
  ok : ∃ d, p.isOk d = true
  shp : p.shp = true
def KidS (x : Form) : Prop := (∃ d, x.isOk d = true) ∧ (zab x = true ∨ x.shp = true)
theorem isOk_kids {f : Form} {d : Nat} (h : f.isOk d = true) : (f.kind ≠ 3 → f.kids = []) ∧ ∀ x ∈ f.kids, x.isOk (d - 1) = true := by
  rw [Form.isOk_eq] at h
  cases hd : decide (d = 0) with
  | true => rw [hd] at h; cases h
  | false =>
  rw [hd, cond_false] at h
  by_cases h1 : f.kind = 1
  · rw [decide_eq_true h1, cond_true] at h
    simp only [Bool.and_eq_true, decide_eq_true_eq] at h
    have : f.kids = [] := List.eq_nil_of_length_eq_zero (by omega)
    exact ⟨fun _ => this, fun x hx => by rw [this] at hx; cases hx⟩
  · rw [decide_eq_false h1, cond_false] at h
    by_cases h2 : f.kind = 2
    · rw [decide_eq_true h2, cond_true] at h
      simp only [Bool.and_eq_true, decide_eq_true_eq] at h
      have : f.kids = [] := List.eq_nil_of_length_eq_zero (by omega)
      exact ⟨fun _ => this, fun x hx => by rw [this] at hx; cases hx⟩
    · rw [decide_eq_false h2, cond_false] at h
      simp only [Bool.and_eq_true, decide_eq_true_eq] at h
      obtain ⟨h3, _, _, _, h4⟩ := h
      exact ⟨fun hn => absurd h3 hn, fun x hx => zfP.1 h4 x hx⟩
theorem kP_mem : ∀ {l : List Form} {pd : Bool}, Form.kP pd l = true → ∀ x ∈ l, zab x = true ∨ x.shp = true
  | y :: ys, pd, h, x, hx => by
    rw [Form.kP, Bool.and_eq_true] at h
    rcases List.mem_cons.1 hx with rfl | hx
    · cases hd : zab x with
      | true => exact .inl rfl
      | false => have := h.1; rw [hd, cond_false] at this; exact .inr this
    · exact kP_mem h.2 x hx
theorem PatS.parts {p : Form} (h : PatS p) : zab p = false ∧ Form.kP true p.kids = true ∧ cntD p.kids ≤ 1 ∧ (∀ x ∈ p.kids, KidS x) ∧ (p.kind ≠ 3 → p.kids = []) := by
  obtain ⟨⟨d, hd⟩, hs⟩ := h
  rw [Form.shp_eq, Bool.and_eq_true, Bool.and_eq_true, Bool.not_eq_true', decide_eq_true_eq] at hs
  obtain ⟨k1, k2⟩ := isOk_kids hd
  exact ⟨hs.1, hs.2.1, hs.2.2, fun x hx => ⟨⟨_, k2 x hx⟩, kP_mem hs.2.1 x hx⟩, k1⟩
theorem KidS.dots {x : Form} (h : KidS x) (hd : zab x = true) (lits : List Form) : x.vs lits = [] ∧ zga lits x = false ∧ x.kids = [] := by
  obtain ⟨⟨d, h⟩, _⟩ := h
  unfold zab at hd
  rw [Bool.and_eq_true, decide_eq_true_eq, decide_eq_true_eq] at hd
  have hk : x.kids = [] := (isOk_kids h).1 (by omega)
  have hv : zga lits x = false := by unfold zga; rw [decide_eq_true hd.1, decide_eq_true hd.2]; rfl
  exact ⟨by rw [Form.vs_eq, hk, hv]; rfl, hv, hk⟩
end Go.Abs
end
section
set_option linter.unusedVariables false
set_option linter.unusedSimpArgs false
namespace Go.Abs
def MR (o : Option (List Hit)) (out : List Hit) (r : List Hit × Bool) : Prop := r.2 = o.isSome ∧ ∀ h, o = some h → r.1 = out ++ h
theorem MR.none {out : List Hit} {x : List Hit} : MR none out (x, false) := ⟨rfl, fun h hh => by cases hh⟩
end Go.Abs
end
section
set_option linter.unusedVariables false
set_option linter.unusedSimpArgs false
namespace Go.Abs
def bindOk (b : Bind) : Bool := nmOk b.name && (scOk b.scopes && (decide (1 ≤ b.id) && decide (b.id ≤ 999)))
noncomputable def bvF : List Bind → List Bind → Bool
  | _, [] => true
  | ps, b :: bs => (bindOk b && !anys (fun c => decide (c.name = b.name) && same c.scopes b.scopes) ps) && bvF (ps ++ [b]) bs
noncomputable def bvOk (l : List Bind) : Bool := bvF [] l && decide ((l.length : Int) ≤ 60)
def Bind.fit (b : Bind) : Prop := b.name.size ≤ 9223372036854775807 ∧ b.scopes.length ≤ 9223372036854775807
theorem specBindsValid_tr (l : List Bind) (hf : ∀ b ∈ l, b.fit) : Tr (fun m => zdJ m l) (bvOk l) := by
  refine Tr.eq (fun m => by unfold zdJ; rfl) ?_
  have key := zae l (fun k zs => Tr (fun m => za6 m l (k : Int)) (bvF (l.take k) zs && decide ((l.length : Int) ≤ 60))) ?_ ?_ 0 (Nat.zero_le _)
  · simpa [bvOk] using key
  · exact Tr.step (fun m => by rw [za6, zac, cond_false]) (Tr.step (fun m => by rw [za8, cond_false]) (by rw [bvF, Bool.true_and]; exact Tr.val))
  · intro k x zs hk hx hd ih
    have hm := List.mem_of_getElem? hx
    have hxf := hf x hm
    rw [zdF hx] at ih
    refine Tr.step (fun m => by rw [za6, ltN hk, cond_true]) ?_
    by_cases h60 : k ≤ 60
    case neg =>
      refine Tr.step (fun m => by rw [za8, decide_eq_false (show ¬ (k : Int) ≤ 60 by omega), cond_false]) ?_
      rw [decide_eq_false (show ¬ (l.length : Int) ≤ 60 by omega), Bool.and_false]
      exact Tr.val
    refine Tr.step (fun m => by rw [za8, decide_eq_true (show (k : Int) ≤ 60 by omega), cond_true, zP hx, Option.bind_some]) (Tr.bind (specNm_tr _) ?_)
    have j3 : ∀ b : Bool, bindOk x = !b → Tr (fun m => zaw m l (k : Int) b) (bvF (l.take k) (x :: zs) && decide ((l.length : Int) ≤ 60)) := by
      intro b hb
      rw [bvF, hb]
      cases b with
      | true => exact Tr.step (fun m => by rw [zaw, cond_true]; rfl) Tr.val
      | false =>
        rw [Bool.not_false, Bool.true_and]
        refine Tr.step (fun m => by rw [zaw, cond_false]) ?_
        have inner : ∀ d j : Nat, j + d = k → Tr (fun m => za5 m l (k : Int) (j : Int)) ((!anys (fun c => decide (c.name = x.name) && same c.scopes x.scopes) ((l.take k).drop j) && bvF (l.take k ++ [x]) zs) && decide ((l.length : Int) ≤ 60)) := by
          intro d
          induction d with
          | zero =>
            intro j hj
            obtain rfl : j = k := by omega
            refine Tr.step (fun m => by rw [za5, zac, cond_false, zcI (by omega), zcJ]) ?_
            rw [show (l.take j).drop j = [] by rw [List.drop_eq_nil_iff, List.length_take]; omega, anys, Bool.not_false, Bool.true_and]
            exact ih
          | succ d ihd =>
            intro j hj
            have hjl : j < l.length := by omega
            have hy : l[j]? = some l[j] := List.getElem?_eq_getElem hjl
            have hdr : (l.take k).drop j = l[j] :: (l.take k).drop (j + 1) := by
              have : (l.take k)[j]? = some l[j] := by rw [List.getElem?_take, if_pos (by omega), hy]
              exact drop_get this
            rw [hdr, anys]
            refine Tr.step (fun m => by rw [za5, ltN (show j < k by omega), cond_true, zP hy, Option.bind_some, zP hx, Option.bind_some]) ?_
            have j5 : ∀ b : Bool, (decide (l[j].name = x.name) && same l[j].scopes x.scopes) = b → Tr (fun m => za7 m l (k : Int) (j : Int) b) ((!((decide (l[j].name = x.name) && same l[j].scopes x.scopes) || anys (fun c => decide (c.name = x.name) && same c.scopes x.scopes) ((l.take k).drop (j + 1))) && bvF (l.take k ++ [x]) zs) && decide ((l.length : Int) ≤ 60)) := by
              intro b hb
              rw [hb]
              cases b with
              | true => exact Tr.step (fun m => by rw [za7, cond_true]; rfl) Tr.val
              | false => exact Tr.step (fun m => by rw [za7, cond_false, zcI (by omega), zcJ]) (by rw [Bool.false_or]; exact ihd (j + 1) (by omega))
            by_cases hn : l[j].name = x.name
            · refine Tr.tt (decide_eq_true hn) (Tr.eq (fun m => by rw [Option.bind_some, Option.bind_some]) (Tr.bind (l1Ints_tr _ _) (j5 _ ?_)))
              rw [decide_eq_true hn, Bool.true_and]
            · refine Tr.ff (decide_eq_false hn) (j5 false ?_)
              rw [decide_eq_false hn, Bool.false_and]
        have := inner k 0 (by omega)
        rw [List.drop_zero] at this
        exact this
    unfold bindOk at j3
    cases hn : nmOk x.name with
    | false => exact Tr.tt rfl (j3 true (by rw [hn]; rfl))
    | true =>
    refine Tr.ff rfl (Tr.eq (fun m => by rw [Option.bind_some]) (Tr.bind (specSc_tr _ hxf.2) ?_))
    cases hs : scOk x.scopes with
    | false => exact Tr.tt rfl (j3 true (by rw [hn, hs]; rfl))
    | true =>
    refine Tr.ff rfl (Tr.eq (fun m => by rw [Option.bind_some]) ?_)
    by_cases h1 : x.id < 1
    · exact Tr.tt (decide_eq_true h1) (j3 true (by rw [decide_eq_false (show ¬ 1 ≤ x.id by omega), Bool.false_and, Bool.and_false, Bool.and_false]; rfl))
    · refine Tr.ff (decide_eq_false h1) (Tr.eq (fun m => by rw [Option.bind_some]) (j3 _ ?_))
      rw [hn, hs, decide_eq_true (show 1 ≤ x.id by omega), Bool.true_and, Bool.true_and, Bool.true_and]
      by_cases h2 : x.id ≤ 999
      · rw [decide_eq_true h2, decide_eq_false (show ¬ 999 < x.id by omega)]; rfl
      · rw [decide_eq_false h2, decide_eq_true (show 999 < x.id by omega)]; rfl
end Go.Abs
end
section
set_option linter.unusedVariables false
set_option linter.unusedSimpArgs false
namespace Go.Abs
noncomputable def rulesOkB (rules : List Rule) (lits : List Form) : Bool := alls (fun r => zgK r lits) rules && (decide ((rules.length : Int) ≤ 9) && litOk lits)
structure DrR (n : Nat) (r : Rule) : Prop where
  p : Dr n r.pattern
  t : Dr n r.template
theorem l5Rules_tr (rules : List Rule) (lits : List Form) (hr : ∀ r ∈ rules, DrR (2 ^ 36) r) (hl : Form.fits lits) (hlb : Form.ws lits ≤ 2 ^ 36) : Tr (fun m => zeY m rules lits) (rulesOkB rules lits) := by
  refine Tr.eq (fun m => by unfold zeY; rfl) ?_
  have key := zae rules (fun k zs => (∀ z ∈ zs, z ∈ rules) → Tr (fun m => zbW m rules lits (k : Int)) (alls (fun r => zgK r lits) zs && (decide ((rules.length : Int) ≤ 9) && litOk lits))) ?_ ?_ 0 (Nat.zero_le _) (fun z hz => by simpa using hz)
  · exact key
  · intro _
    refine Tr.step (fun m => by rw [zbW, zac, cond_false]) (Tr.step (fun m => by rw [zbX, cond_false]) ?_)
    rw [alls, Bool.true_and]
    by_cases h9 : (rules.length : Int) ≤ 9
    · rw [decide_eq_true h9, Bool.true_and]
      exact Tr.tt (decide_eq_true (by omega)) (Tr.bind (specLit_tr lits hl hlb) Tr.val)
    · rw [decide_eq_false h9, Bool.false_and]
      exact Tr.ff (decide_eq_false (by omega)) Tr.val
  · intro k x zs hk hx hd ih hz
    have hxr := hr x (hz x (by simp))
    refine Tr.step (fun m => by rw [zbW, ltN hk, cond_true]) ?_
    by_cases h10 : (k : Int) < 10
    · refine Tr.step (fun m => by rw [zbX, decide_eq_true h10, cond_true, zP hx, Option.bind_some]) ?_
      have hsr := specRuleValid_tr x lits hxr.p.fit hxr.p.w hxr.t.fit hxr.t.w hl hlb
      have hsr2 : Tr (fun m => zcM m x lits) (zgK x lits) := by
        obtain ⟨n, h⟩ := hsr
        refine ⟨n, fun m hm => ?_⟩
        have := h m hm
        unfold zgh at this
        show zcM m x lits = _
        replace this : (zcM m x lits).bind (fun v1 => some v1) = some (zgK x lits) := this
        cases h5 : zcM m x lits with
        | none => rw [h5] at this; cases this
        | some b => rw [h5] at this; exact this
      refine Tr.bind hsr2 ?_
      rw [alls]
      cases zgK x lits with
      | false => exact Tr.tt rfl Tr.val
      | true => exact Tr.ff rfl (Tr.eq (fun m => by rw [zcI (by omega), zcJ]) (ih (fun z h => hz z (by simp [h]))))
    · refine Tr.step (fun m => by rw [zbX, decide_eq_false h10, cond_false]) ?_
      rw [decide_eq_false (show ¬ (rules.length : Int) ≤ 9 by omega), Bool.false_and, Bool.and_false]
      exact Tr.ff (decide_eq_false (by omega)) Tr.val
end Go.Abs
end
section
set_option linter.unusedVariables false
set_option linter.unusedSimpArgs false
namespace Go.Abs
def sumW {α : Type} (W : α → Nat) : List α → Nat
  | [] => 0
  | x :: xs => W x + sumW W xs
theorem sumW_mem {α : Type} {W : α → Nat} : ∀ {l : List α} {x : α}, x ∈ l → W x ≤ sumW W l
  | y :: ys, x, h => by
    rw [sumW]
    rcases List.mem_cons.1 h with rfl | h
    · omega
    · have := sumW_mem (W := W) h; omega
theorem sz_loop {α : Type} {l : List α} {W : α → Nat} {L : Nat → Int → Int → Option Int} {E : Nat → α → Int → Option Int}
    (h0 : ∀ m g k, L (m + 1) g k = bif decide (k < (l.length : Int)) then (idx l k).bind fun a => (E m a g).bind fun v => bif decide (v < 0) then some (-1) else L m v (k + 1) else some g)
    (hE : ∀ x ∈ l, ∀ v : Int, 0 ≤ v → v ≤ 2 ^ 40 → TQ (fun m => E m x v) (Left v (W x))) {v : Int} (hv : 0 ≤ v) (h1 : v ≤ 2 ^ 40) : TQ (fun m => L m v 0) (Left v (sumW W l)) := by
  have key := zae l (fun k zs => ∀ g : Int, 0 ≤ g → g ≤ 2 ^ 40 → TQ (fun m => L m g (k : Int)) (Left g (sumW W zs))) ?_ ?_ 0 (Nat.zero_le _) _ hv h1
  · simpa using key
  · intro g hg _
    exact TQ.step (fun m => by rw [h0, zac, cond_false]) (TQ.val (.inr ⟨hg, by simp [sumW]⟩))
  · intro k x zs hk hx hd ihk g hg hg1
    refine TQ.step (fun m => by rw [h0, ltN hk, cond_true, zP hx, Option.bind_some, zcJ]) ?_
    refine TQ.bind (hE x (List.mem_of_getElem? hx) g hg hg1) (fun r hr => ?_)
    rcases hr with rfl | ⟨hr, rfl⟩
    · exact TQ.cond (fun _ => TQ.val (.inl rfl)) (fun h => absurd h (by decide))
    refine TQ.cond (fun h => absurd h (by rw [geZ hr]; decide)) (fun _ => ?_)
    refine TQ.mono (ihk _ hr (by omega)) (fun r hr => ?_)
    rcases hr with hr | ⟨hr, he⟩
    · exact .inl hr
    · exact .inr ⟨hr, by rw [he, sumW]; omega⟩
theorem sz_two {F : Nat → Option Int} {G : Int → Nat → Option Int} {v : Int} {a b : Nat} (h1 : TQ F (Left v a)) (h2 : ∀ r : Int, 0 ≤ r → r = v - a → TQ (fun m => G r m) (Left r b)) :
    TQ (fun m => (F m).bind fun r => bif decide (r < 0) then some (-1) else (G r m).bind fun s => bif decide (s < 0) then some (-1) else some s) (Left v (a + b)) := by
  refine TQ.bind h1 (fun r hr => ?_)
  rcases hr with rfl | ⟨hr, e⟩
  · exact TQ.cond (fun _ => TQ.val (.inl rfl)) (fun h => absurd h (by decide))
  refine TQ.cond (fun h => absurd h (by rw [geZ hr]; decide)) (fun _ => TQ.bind (h2 r hr e) (fun s hs => ?_))
  rcases hs with rfl | ⟨hs, e2⟩
  · exact TQ.cond (fun _ => TQ.val (.inl rfl)) (fun h => absurd h (by decide))
  exact TQ.cond (fun h => absurd h (by rw [geZ hs]; decide)) (fun _ => TQ.val (.inr ⟨hs, by omega⟩))
theorem sz_many {α : Type} {l : List α} {n : Nat} {v : Int} {G : Int → Nat → Option Int} (hl : l.length ≤ 9223372036854775807) (h0 : 0 ≤ v) (h1 : v ≤ 2 ^ 40) (hG : ∀ r : Int, 0 ≤ r → r = v - l.length → TQ (fun m => G r m) (Left r n)) :
    TQ (fun m => bif decide ((w64 (v - (l.length : Int))) < 0) then some (-1) else G (w64 (v - (l.length : Int))) m) (Left v (l.length + n)) := by
  rw [zcI (by omega)]
  refine TQ.cond (fun _ => TQ.val (.inl rfl)) (fun h => ?_)
  replace h : 0 ≤ v - (l.length : Int) := by simpa using h
  refine TQ.mono (hG _ h rfl) (fun r hr => ?_)
  rcases hr with hr | ⟨hr, he⟩
  · exact .inl hr
  · exact .inr ⟨hr, by rw [he]; omega⟩
def Bind.wt (b : Bind) : Nat := b.name.size + b.scopes.length
def Rule.wt (r : Rule) : Nat := r.pattern.wt + r.template.wt
def zq.wt (m : zq) : Nat := Form.wts m.literals + (m.rules.length + sumW Rule.wt m.rules)
def zv.wt (x : zv) : Nat := (x.binds.length + sumW Bind.wt x.binds) + (x.macros.length + sumW zq.wt x.macros)
structure Rule.fit (r : Rule) : Prop where
  p : r.pattern.fit
  t : r.template.fit
structure zq.fit (m : zq) : Prop where
  ll : m.literals.length ≤ 9223372036854775807
  l : Form.fits m.literals
  rl : m.rules.length ≤ 9223372036854775807
  r : ∀ r ∈ m.rules, r.fit
structure zv.fit (x : zv) : Prop where
  bl : x.binds.length ≤ 9223372036854775807
  b : ∀ b ∈ x.binds, b.fit
  ml : x.macros.length ≤ 9223372036854775807
  m : ∀ m ∈ x.macros, m.fit
theorem szBind_tq (b : Bind) (v : Int) (hb : b.fit) (h0 : 0 ≤ v) (h1 : v ≤ 2 ^ 40) : TQ (fun m => zeO m b v) (Left v b.wt) := by
  have h2 := hb.1
  refine TQ.eq (fun m => by unfold zeO; rw [zcI (by omega)]) ?_
  refine TQ.cond (fun _ => TQ.val (.inl rfl)) (fun h => ?_)
  replace h : 0 ≤ v - (b.name.size : Int) := by simpa using h
  refine TQ.bind (szIntS_tq _ _ hb.2 h (by omega)) (fun r hr => ?_)
  rcases hr with rfl | ⟨hr, rfl⟩
  · exact TQ.cond (fun _ => TQ.val (.inl rfl)) (fun h => absurd h (by decide))
  exact TQ.cond (fun h => absurd h (by rw [geZ hr]; decide)) (fun _ => TQ.val (.inr ⟨hr, by unfold Bind.wt; omega⟩))
theorem szBindS_tq (l : List Bind) (v : Int) (hl : l.length ≤ 9223372036854775807) (hb : ∀ b ∈ l, b.fit) (h0 : 0 ≤ v) (h1 : v ≤ 2 ^ 40) : TQ (fun m => ze5 m l v) (Left v (l.length + sumW Bind.wt l)) := by
  refine TQ.eq (fun m => by unfold ze5; rfl) (sz_many hl h0 h1 (G := fun r m => zb1 m l r 0) (fun r h2 e => ?_))
  exact sz_loop (L := fun m g k => zb1 m l g k) (E := fun m a g => zeO m a g) (fun m g k => by rw [zb1]) (fun x hx v h h' => szBind_tq x v (hb x hx) h h') h2 (by omega)
theorem szRule_tq (r : Rule) (v : Int) (hr : r.fit) (h0 : 0 ≤ v) (h1 : v ≤ 2 ^ 40) : TQ (fun m => zeM m r v) (Left v r.wt) := by
  refine TQ.eq (fun m => by unfold zeM; rfl) ?_
  exact sz_two (szForm_tq _ _ hr.p h0 h1) (G := fun w m => zcq m r.template w) (fun w h2 e => szForm_tq _ _ hr.t h2 (by omega))
theorem szRuleS_tq (l : List Rule) (v : Int) (hl : l.length ≤ 9223372036854775807) (hb : ∀ b ∈ l, b.fit) (h0 : 0 ≤ v) (h1 : v ≤ 2 ^ 40) : TQ (fun m => zel m l v) (Left v (l.length + sumW Rule.wt l)) := by
  refine TQ.eq (fun m => by unfold zel; rfl) (sz_many hl h0 h1 (G := fun r m => zb0 m l r 0) (fun r h2 e => ?_))
  exact sz_loop (L := fun m g k => zb0 m l g k) (E := fun m a g => zeM m a g) (fun m g k => by rw [zb0]) (fun x hx v h h' => szRule_tq x v (hb x hx) h h') h2 (by omega)
theorem szMacro_tq (x : zq) (v : Int) (hx : x.fit) (h0 : 0 ≤ v) (h1 : v ≤ 2 ^ 40) : TQ (fun m => zem m x v) (Left v x.wt) := by
  refine TQ.eq (fun m => by unfold zem; rfl) ?_
  exact sz_two (szFormS_tq _ _ hx.ll hx.l h0 h1) (G := fun w m => zel m x.rules w) (fun w h2 e => szRuleS_tq _ _ hx.rl hx.r h2 (by omega))
theorem szMacroS_tq (l : List zq) (v : Int) (hl : l.length ≤ 9223372036854775807) (hb : ∀ b ∈ l, b.fit) (h0 : 0 ≤ v) (h1 : v ≤ 2 ^ 40) : TQ (fun m => zdL m l v) (Left v (l.length + sumW zq.wt l)) := by
  refine TQ.eq (fun m => by unfold zdL; rfl) (sz_many hl h0 h1 (G := fun r m => zbL m l r 0) (fun r h2 e => ?_))
  exact sz_loop (L := fun m g k => zbL m l g k) (E := fun m a g => zem m a g) (fun m g k => by rw [zbL]) (fun x hx v h h' => szMacro_tq x v (hb x hx) h h') h2 (by omega)
theorem szExpansion_tq (x : zv) (v : Int) (hx : x.fit) (h0 : 0 ≤ v) (h1 : v ≤ 2 ^ 40) : TQ (fun m => zdl m x v) (Left v x.wt) := by
  refine TQ.eq (fun m => by unfold zdl; rfl) ?_
  exact sz_two (szBindS_tq _ _ hx.bl hx.b h0 h1) (G := fun w m => zdL m x.macros w) (fun w h2 e => szMacroS_tq _ _ hx.ml hx.m h2 (by omega))
structure zv.light (x : zv) : Prop where
  bl : x.binds.length ≤ 2 ^ 30
  b : ∀ b ∈ x.binds, b.scopes.length ≤ 2 ^ 30
  ml : x.macros.length ≤ 2 ^ 30
  ms : ∀ m ∈ x.macros, Form.ws m.literals ≤ 2 ^ 36 ∧ m.rules.length ≤ 2 ^ 30 ∧ ∀ r ∈ m.rules, r.pattern.w ≤ 2 ^ 36 ∧ r.template.w ≤ 2 ^ 36
theorem zv.light_of {x : zv} (h : x.wt ≤ 2 ^ 30) : x.light := by
  unfold zv.wt at h
  refine ⟨by omega, fun b hb => ?_, by omega, fun m hm => ?_⟩
  · have := sumW_mem (W := Bind.wt) hb
    have e : b.wt = b.name.size + b.scopes.length := rfl
    omega
  · have h1 := sumW_mem (W := zq.wt) hm
    have e : m.wt = Form.wts m.literals + (m.rules.length + sumW Rule.wt m.rules) := rfl
    have h2 := Form.ws_wts m.literals
    refine ⟨by omega, by omega, fun r hr => ?_⟩
    have h3 := sumW_mem (W := Rule.wt) hr
    have e2 : r.wt = r.pattern.wt + r.template.wt := rfl
    have h4 := r.pattern.w_wt
    have h5 := r.template.w_wt
    exact ⟨by omega, by omega⟩
theorem toBind_tr (b : Bind) (h : b.scopes.length ≤ 2 ^ 36) : Tr (fun m => zdk m b) b := by
  refine Tr.eq (fun m => by unfold zdk; rfl) (Tr.bind (toIntS_tr _ h) ?_)
  obtain ⟨x, y, z⟩ := b; exact Tr.val
theorem toBindS_tr (l : List Bind) (hl : l.length ≤ 2 ^ 36) (h : ∀ b ∈ l, b.scopes.length ≤ 2 ^ 36) : Tr (fun m => zdz m l) l := by
  refine Tr.eq (fun m => by unfold zdz; rfl) (Tr.chk (by simp; omega) ?_)
  have := zhk (xs := l) (z := Bind.mk (⟨#[]⟩ : ByteArray) ([] : List Int) 0) (f := fun x => x) (L := fun m k acc => za3 m l k acc) (E := fun m a => zdk m a) (fun m k acc => by rw [za3]) (fun a ha => toBind_tr a (h a ha))
  simpa using this
theorem toRule_tr (r : Rule) (h1 : r.pattern.w ≤ 2 ^ 36) (h2 : r.template.w ≤ 2 ^ 36) : Tr (fun m => zdh m r) r := by
  refine Tr.eq (fun m => by unfold zdh; rfl) (Tr.bind (toForm_tr _ h1) (Tr.bind (toForm_tr _ h2) ?_))
  obtain ⟨a, b⟩ := r; exact Tr.val
theorem toRuleS_tr (l : List Rule) (hl : l.length ≤ 2 ^ 36) (h : ∀ r ∈ l, r.pattern.w ≤ 2 ^ 36 ∧ r.template.w ≤ 2 ^ 36) : Tr (fun m => zdy m l) l := by
  refine Tr.eq (fun m => by unfold zdy; rfl) (Tr.chk (by simp; omega) ?_)
  have := zhk (xs := l) (z := Rule.mk (Form.mk 0 (⟨#[]⟩ : ByteArray) 0 ([] : List Int) ([] : List Form)) (Form.mk 0 (⟨#[]⟩ : ByteArray) 0 ([] : List Int) ([] : List Form))) (f := fun x => x) (L := fun m k acc => za2 m l k acc) (E := fun m a => zdh m a) (fun m k acc => by rw [za2]) (fun a ha => toRule_tr a (h a ha).1 (h a ha).2)
  simpa using this
theorem toMacro_tr (x : zq) (h1 : Form.ws x.literals ≤ 2 ^ 36) (h2 : x.rules.length ≤ 2 ^ 36) (h : ∀ r ∈ x.rules, r.pattern.w ≤ 2 ^ 36 ∧ r.template.w ≤ 2 ^ 36) : Tr (fun m => zcT m x) x := by
  refine Tr.eq (fun m => by unfold zcT; rfl) (Tr.bind (toFormS_tr _ h1) (Tr.bind (toRuleS_tr _ h2 h) ?_))
  obtain ⟨a, b, c⟩ := x; exact Tr.val
theorem toMacroS_tr (l : List zq) (hl : l.length ≤ 2 ^ 36) (h : ∀ x ∈ l, Form.ws x.literals ≤ 2 ^ 36 ∧ x.rules.length ≤ 2 ^ 30 ∧ ∀ r ∈ x.rules, r.pattern.w ≤ 2 ^ 36 ∧ r.template.w ≤ 2 ^ 36) : Tr (fun m => zc0 m l) l := by
  refine Tr.eq (fun m => by unfold zc0; rfl) (Tr.chk (by simp; omega) ?_)
  have := zhk (xs := l) (z := zq.mk 0 ([] : List Form) ([] : List Rule)) (f := fun x => x) (L := fun m k acc => zaO m l k acc) (E := fun m a => zcT m a) (fun m k acc => by rw [zaO]) (fun a ha => toMacro_tr a (h a ha).1 (by have := (h a ha).2.1; omega) (h a ha).2.2)
  simpa using this
theorem toExpansion_tr (x : zv) (h : x.light) : Tr (fun m => zaP m x) x := by
  have h1 := h.bl
  have h2 := h.ml
  refine Tr.eq (fun m => by unfold zaP; rfl) (Tr.bind (toBindS_tr _ (by omega) (fun b hb => by have := h.b b hb; omega)) (Tr.bind (toMacroS_tr _ (by omega) h.ms) ?_))
  obtain ⟨a, b, c, d, e⟩ := x; exact Tr.val
theorem loop_self {α : Type} {xs : List α} {L : Nat → Int → Option Bool} {E : Nat → α → α → Option Bool}
    (h0 : ∀ m k, L (m + 1) k = bif decide (k < (xs.length : Int)) then (idx xs k).bind fun a => (idx xs k).bind fun b => (E m a b).bind fun v => bif !v then some false else L m (k + 1) else some true)
    (hE : ∀ a, Tr (fun m => E m a a) true) : Tr (fun m => L m 0) true := by
  have key := zae xs (fun k zs => Tr (fun m => L m (k : Int)) true) ?_ ?_ 0 (Nat.zero_le _)
  · simpa using key
  · exact Tr.step (fun m => by rw [h0, zac, cond_false]) Tr.val
  · intro k x zs hk hx hd ih
    refine Tr.step (fun m => by rw [h0, ltN hk, cond_true, zP hx, Option.bind_some, Option.bind_some, zcJ]) ?_
    refine Tr.bind (hE x) ?_
    exact Tr.ff rfl ih
theorem eqBind_self (b : Bind) : Tr (fun m => zeS m b b) true := by
  refine Tr.eq (fun m => by unfold zeS; rw [decide_eq_false (fun h => h rfl), cond_false]) (Tr.bind (eqIntS_tr _ _) ?_)
  rw [zfB]
  exact Tr.ff rfl (Tr.ff (decide_eq_false (fun h => h rfl)) Tr.val)
theorem eqBindS_self (l : List Bind) : Tr (fun m => ze7 m l l) true := by
  refine Tr.eq (fun m => by unfold ze7; rfl) (Tr.ff (lenE rfl) ?_)
  exact loop_self (L := fun m k => zcm m l l k) (E := fun m a b => zeS m a b) (fun m k => by rw [zcm]) eqBind_self
theorem eqRule_self (r : Rule) : Tr (fun m => zeP m r r) true := by
  refine Tr.eq (fun m => by unfold zeP; rfl) (Tr.bind (eqForm_tr _ _) ?_)
  rw [zfB]
  refine Tr.ff rfl (Tr.bind (eqForm_tr _ _) ?_)
  rw [zfB]; exact Tr.ff rfl Tr.val
theorem eqRuleS_self (l : List Rule) : Tr (fun m => ze6 m l l) true := by
  refine Tr.eq (fun m => by unfold ze6; rfl) (Tr.ff (lenE rfl) ?_)
  exact loop_self (L := fun m k => zcl m l l k) (E := fun m a b => zeP m a b) (fun m k => by rw [zcl]) eqRule_self
theorem eqMacro_self (x : zq) : Tr (fun m => zcr m x x) true := by
  refine Tr.eq (fun m => by unfold zcr; rw [decide_eq_false (fun h => h rfl), cond_false]) (Tr.bind (eqFormS_tr _ _) ?_)
  rw [zfB]
  exact Tr.ff rfl (Tr.bind (eqRuleS_self _) (Tr.ff rfl Tr.val))
theorem eqMacroS_self (l : List zq) : Tr (fun m => zeC m l l) true := by
  refine Tr.eq (fun m => by unfold zeC; rfl) (Tr.ff (lenE rfl) ?_)
  exact loop_self (L := fun m k => zb7 m l l k) (E := fun m a b => zcr m a b) (fun m k => by rw [zb7]) eqMacro_self
theorem eqExpansion_self (x : zv) : Tr (fun m => zdo m x x) true := by
  refine Tr.eq (fun m => by unfold zdo; rfl) (Tr.bind (eqBindS_self _) ?_)
  refine Tr.ff rfl ?_
  refine Tr.bind (eqMacroS_self _) ?_
  refine Tr.ff rfl ?_
  exact Tr.ff (decide_eq_false (fun h => h rfl)) (Tr.ff (decide_eq_false (fun h => h rfl)) (Tr.ff (decide_eq_false (fun h => h rfl)) Tr.val))
end Go.Abs
end
section
set_option linter.unusedVariables false
set_option linter.unusedSimpArgs false
namespace Go.Abs
theorem fnd_any {α : Type} {D : α → Bool} {l : List α} {k : Nat} : decide (0 ≤ fnd D l k) = anys D l := by
  rw [Bool.eq_iff_iff, decide_eq_true_iff, fnd_ge, anys_iff]
theorem implBindsValid_tr (l : List Bind) (hl : l.length ≤ 9223372036854775807) (hf : ∀ b ∈ l, b.fit) : Tr (fun m => zcn m l) (bvOk l) := by
  refine Tr.eq (fun m => by unfold zcn; rfl) ?_
  have key := zae l (fun k zs => Tr (fun m => zbb m l (k : Int)) (bvF (l.take k) zs && decide ((l.length : Int) ≤ 60))) ?_ ?_ 0 (Nat.zero_le _)
  · simpa [bvOk] using key
  · exact Tr.step (fun m => by rw [zbb, zac, cond_false]) (by rw [bvF, Bool.true_and]; exact Tr.val)
  · intro k x zs hk hx hd ih
    have hm := List.mem_of_getElem? hx
    have hxf := hf x hm
    rw [zdF hx] at ih
    have j2 : ∀ b : Bool, bindOk x = !b → Tr (fun m => zaH m l (k : Int) x b) (bvF (l.take k) (x :: zs) && decide ((l.length : Int) ≤ 60)) := by
      intro b hb
      rw [bvF, hb]
      cases b with
      | true => exact Tr.step (fun m => by rw [zaH, cond_true]; rfl) Tr.val
      | false =>
        rw [Bool.not_false, Bool.true_and]
        refine Tr.step (fun m => by rw [zaH, cond_false, zho (by omega), Option.bind_some, zcJ]) ?_
        refine Tr.bind (v := anys (fun c => decide (c.name = x.name) && same c.scopes x.scopes) (l.take k)) ?_ ?_
        · refine Tr.eq (fun m => by unfold zaD; rfl) (Tr.bind (v := fnd (fun c => decide (c.name = x.name) && same c.scopes x.scopes) (l.take k) 0) ?_ (Tr.of fun m => by rw [fnd_any]))
          refine Tr.eq (fun m => by unfold zaM; rfl) ?_
          refine zfL (L := fun m j => zK m (l.take k) x j) (E := fun m y => zc4 m y x) (fun m j => by rw [zK]) (fun y _ => ?_)
          refine Tr.eq (fun m => by unfold zc4; rfl) ?_
          cases decide (y.name = x.name) with
          | false => exact Tr.ff rfl Tr.val
          | true => exact Tr.tt rfl (Tr.bind (slEqual_tr _ _) Tr.val)
        · cases anys (fun c => decide (c.name = x.name) && same c.scopes x.scopes) (l.take k) with
          | true => exact Tr.tt rfl Tr.val
          | false => exact Tr.ff rfl (by rw [Bool.not_false, Bool.true_and]; exact ih)
    refine Tr.step (fun m => by rw [zbb, ltN hk, cond_true, zP hx, Option.bind_some]) (Tr.bind (implNm_tr _ hxf.1) ?_)
    cases hn : nmOk x.name with
    | false => exact Tr.tt rfl (j2 true (by unfold bindOk; rw [hn]; rfl))
    | true =>
    refine Tr.ff rfl (Tr.bind (implSc_tr _ hxf.2) ?_)
    cases hs : scOk x.scopes with
    | false => exact Tr.tt rfl (j2 true (by unfold bindOk; rw [hn, hs]; rfl))
    | true =>
    refine Tr.ff rfl (Tr.bind (zfz _ _ _) (j2 _ ?_))
    unfold bindOk; rw [hn, hs, Bool.not_not]; rfl
theorem not_anys {α : Type} {D : α → Bool} : ∀ {l : List α}, (!anys (fun x => !D x) l) = alls D l
  | [] => rfl
  | x :: xs => by rw [anys, alls, Bool.not_or, Bool.not_not, not_anys]
def macAt (l : List zq) (n : Int) : Int := fnd (fun x => decide (x.id = n)) l 0
theorem macroAt_tr (l : List zq) (n : Int) : Tr (fun m => zen m l n) (macAt l n) := by
  refine Tr.eq (fun m => by unfold zen; rfl) (Tr.bind (v := macAt l n) ?_ Tr.val)
  refine Tr.eq (fun m => by unfold za1; rfl) ?_
  exact zfL (L := fun m j => zN m l n j) (E := fun m y => zfd m y n) (fun m j => by rw [zN]) (fun y _ => Tr.val)
theorem l7Macro_tr (x : zv) (n : Int) : Tr (fun m => zej m x n) (macAt x.macros n) := by
  refine Tr.eq (fun m => by unfold zej; rfl) ?_
  exact zfL (L := fun m j => zck m x n j) (E := fun m y => some (decide (y.id = n))) (fun m j => by rw [zck]; rfl) (fun y _ => Tr.val)
theorem fnd_nth {α : Type} {D : α → Bool} : ∀ {l : List α} {k j : Nat} {x : α}, l[k]? = some x → D x = true → decide (fnd D l j ≠ ((j + k : Nat) : Int)) = decide (0 ≤ fnd D (l.take k) j)
  | y :: ys, 0, j, x, h, hD => by
    have e : y = x := by simpa using h
    subst e
    rw [fnd, hD, cond_true, List.take_zero, fnd, decide_eq_false (by simp), decide_eq_false (by omega)]
  | y :: ys, k + 1, j, x, h, hD => by
    rw [fnd, List.take_succ_cons, fnd]
    cases hy : D y with
    | true => rw [cond_true, cond_true, decide_eq_true (by omega), decide_eq_true (by omega)]
    | false =>
      rw [cond_false, cond_false, ← fnd_nth (l := ys) (k := k) (j := j + 1) (by simpa using h) hD]
      rw [show j + (k + 1) = j + 1 + k by omega]
theorem rulesOk_tr (rules : List Rule) (lits : List Form) (hr : ∀ r ∈ rules, r.fit ∧ r.pattern.w ≤ 2 ^ 36 ∧ r.template.w ≤ 2 ^ 36) (hl : Form.fits lits) : Tr (fun m => ze8 m rules lits) (rulesOkB rules lits) := by
  refine Tr.eq (fun m => by unfold ze8; rfl) ?_
  unfold rulesOkB
  by_cases h9 : (rules.length : Int) ≤ 9
  case neg => rw [decide_eq_false h9, Bool.false_and, Bool.and_false]; exact Tr.ff rfl Tr.val
  rw [decide_eq_true h9, Bool.true_and]
  refine Tr.tt rfl (Tr.bind (implLit_tr lits hl) ?_)
  cases litOk lits with
  | false => rw [Bool.and_false]; exact Tr.ff rfl Tr.val
  | true =>
  rw [Bool.and_true]
  refine Tr.tt rfl (Tr.bind (v := anys (fun r => !zgK r lits) rules) ?_ ?_)
  · refine Tr.eq (fun m => by unfold zaN; rfl) (Tr.bind (v := fnd (fun r => !zgK r lits) rules 0) ?_ (Tr.of fun m => by rw [fnd_any]))
    refine Tr.eq (fun m => by unfold zbd; rfl) ?_
    refine zfL (L := fun m j => zR m rules lits j) (E := fun m y => zef m y lits) (fun m j => by rw [zR]) (fun y hy => ?_)
    have h := hr y hy
    exact Tr.eq (fun m => by unfold zef; rfl) (Tr.bind (implRuleValid_tr y lits h.1.p h.2.1 h.1.t h.2.2 hl) Tr.val)
  · rw [show (fun m => some (!anys (fun r => !zgK r lits) rules)) = fun (m : Nat) => some (alls (fun r => zgK r lits) rules) from funext fun _ => by rw [not_anys]]
    exact Tr.val
def insB (n lo hi : Int) : Bool := decide (lo ≤ n) && decide (n ≤ hi)
noncomputable def exHead (x : zv) : Bool := bvOk x.binds && (insB x.scope 0 99 && (insB x.id 10 999 && (insB x.steps 0 60 && !decide (60 < (x.macros.length : Int)))))
def exBind (n : Int) (b : Bind) : Bool := !(decide (n < b.id) || insB b.id 6 10)
noncomputable def macF (n : Int) : List zq → List zq → Bool
  | _, [] => true
  | ps, x :: xs => (rulesOkB x.rules x.literals && (insB x.id 11 n && !decide (0 ≤ macAt ps x.id))) && macF n (ps ++ [x]) xs
noncomputable def exOk (x : zv) : Bool := exHead x && (alls (exBind x.id) x.binds && macF x.id [] x.macros)
theorem implExp_tr (x : zv) (hx : x.fit) (hw : x.light) : Tr (fun m => zcv m x) (exOk x) := by
  have l2 : Tr (fun m => zam m x 0) (macF x.id [] x.macros) := by
    have key := zae x.macros (fun k zs => Tr (fun m => zam m x (k : Int)) (macF x.id (x.macros.take k) zs)) ?_ ?_ 0 (Nat.zero_le _)
    · simpa using key
    · exact Tr.step (fun m => by rw [zam, zac, cond_false]) (by rw [macF]; exact Tr.val)
    · intro k y zs hk hy hd ih
      have hm := List.mem_of_getElem? hy
      have hf := hx.m y hm
      have hl := hw.ms y hm
      rw [zdF hy] at ih
      refine Tr.step (fun m => by rw [zam, ltN hk, cond_true, zP hy, Option.bind_some, zcJ]) (Tr.bind (rulesOk_tr _ _ (fun r hr => ⟨hf.r r hr, hl.2.2 r hr⟩) hf.l) ?_)
      rw [macF]
      cases rulesOkB y.rules y.literals with
      | false => exact Tr.tt rfl Tr.val
      | true =>
      refine Tr.ff rfl (Tr.bind (zfz _ _ _) ?_)
      rw [Bool.true_and]
      show Tr (fun m => bif !insB y.id 11 x.id then _ else _) _
      cases insB y.id 11 x.id with
      | false => exact Tr.tt rfl Tr.val
      | true =>
      refine Tr.ff rfl (Tr.eq (fun m => by rw [zho (by omega), Option.bind_some]) (Tr.bind (macroAt_tr _ _) ?_))
      rw [Bool.true_and]
      cases decide (0 ≤ macAt (x.macros.take k) y.id) with
      | true => exact Tr.tt rfl Tr.val
      | false => exact Tr.ff rfl (by rw [Bool.not_false, Bool.true_and]; exact ih)
  have j1 : ∀ b : Bool, Tr (fun m => zY m x b) (!b && (alls (exBind x.id) x.binds && macF x.id [] x.macros)) := by
    intro b
    cases b with
    | true => exact Tr.step (fun m => by rw [zY, cond_true]; rfl) Tr.val
    | false =>
    refine Tr.step (fun m => by rw [zY, cond_false]) ?_
    rw [Bool.not_false, Bool.true_and]
    refine Tr.bind (v := anys (fun b => !exBind x.id b) x.binds) ?_ ?_
    · refine Tr.eq (fun m => by unfold zaq; rfl) (Tr.bind (v := fnd (fun b => !exBind x.id b) x.binds 0) ?_ (Tr.of fun m => by rw [fnd_any]))
      refine Tr.eq (fun m => by unfold zay; rfl) ?_
      refine zfL (L := fun m j => zH m x.binds x j) (E := fun m y => zcb m y x) (fun m j => by rw [zH]) (fun y _ => ?_)
      refine Tr.eq (fun m => by unfold zcb; rfl) ?_
      unfold exBind; rw [Bool.not_not]
      cases decide (x.id < y.id) with
      | true => exact Tr.tt rfl Tr.val
      | false => exact Tr.ff rfl (Tr.bind (zfz _ _ _) Tr.val)
    · have e : (!anys (fun b => !exBind x.id b) x.binds) = alls (exBind x.id) x.binds := not_anys
      rw [← e]
      cases anys (fun b => !exBind x.id b) x.binds with
      | true => exact Tr.tt rfl Tr.val
      | false => exact Tr.ff rfl (by rw [Bool.not_false, Bool.true_and]; exact l2)
  refine Tr.eq (fun m => by unfold zcv; rfl) (Tr.bind (implBindsValid_tr _ hx.bl hx.b) ?_)
  unfold exOk exHead
  cases bvOk x.binds with
  | false => exact Tr.tt rfl (j1 true)
  | true =>
  refine Tr.ff rfl (Tr.bind (zfz _ _ _) ?_)
  show Tr (fun m => bif !insB x.scope 0 99 then _ else _) _
  cases insB x.scope 0 99 with
  | false => exact Tr.tt rfl (j1 true)
  | true =>
  refine Tr.ff rfl (Tr.bind (zfz _ _ _) ?_)
  show Tr (fun m => bif !insB x.id 10 999 then _ else _) _
  cases insB x.id 10 999 with
  | false => exact Tr.tt rfl (j1 true)
  | true =>
  refine Tr.ff rfl (Tr.bind (zfz _ _ _) ?_)
  show Tr (fun m => bif !insB x.steps 0 60 then _ else _) _
  cases insB x.steps 0 60 with
  | false => exact Tr.tt rfl (j1 true)
  | true => exact Tr.ff rfl (j1 _)
theorem l7In_tr (n lo hi : Int) : Tr (fun m => zfi m n lo hi) (insB n lo hi) := by
  refine Tr.eq (fun m => by unfold zfi; rfl) ?_
  unfold insB
  cases decide (lo ≤ n) with
  | true => exact Tr.tt rfl Tr.val
  | false => exact Tr.ff rfl Tr.val
theorem specExp_tr (x : zv) (hx : x.fit) (hw : x.light) : Tr (fun m => zct m x) (exOk x) := by
  have l4 : Tr (fun m => zal m x 0) (macF x.id [] x.macros) := by
    have key := zae x.macros (fun k zs => Tr (fun m => zal m x (k : Int)) (macF x.id (x.macros.take k) zs)) ?_ ?_ 0 (Nat.zero_le _)
    · simpa using key
    · exact Tr.step (fun m => by rw [zal, zac, cond_false]) (by rw [macF]; exact Tr.val)
    · intro k y zs hk hy hd ih
      have hm := List.mem_of_getElem? hy
      have hf := hx.m y hm
      have hl := hw.ms y hm
      rw [zdF hy] at ih
      refine Tr.step (fun m => by rw [zal, ltN hk, cond_true, zP hy, Option.bind_some, Option.bind_some, Option.bind_some, Option.bind_some, Option.bind_some, zcJ]) ?_
      rw [macF]
      unfold insB
      by_cases h1 : y.id ≤ 10
      · rw [decide_eq_false (show ¬ 11 ≤ y.id by omega)]
        simp only [Bool.false_and, Bool.and_false]
        exact Tr.tt (decide_eq_true h1) Tr.val
      rw [decide_eq_true (show 11 ≤ y.id by omega), Bool.true_and]
      refine Tr.ff (decide_eq_false h1) ?_
      by_cases h2 : x.id < y.id
      · rw [decide_eq_false (show ¬ y.id ≤ x.id by omega)]
        simp only [Bool.false_and, Bool.and_false]
        exact Tr.tt (decide_eq_true h2) Tr.val
      rw [decide_eq_true (show y.id ≤ x.id by omega), Bool.true_and]
      refine Tr.ff (decide_eq_false h2) (Tr.bind (l7Macro_tr _ _) ?_)
      have e := fnd_nth (D := fun z : zq => decide (z.id = y.id)) (j := 0) hy (decide_eq_true rfl)
      rw [Nat.zero_add] at e
      replace e : decide (macAt x.macros y.id ≠ (k : Int)) = decide (0 ≤ macAt (x.macros.take k) y.id) := e
      rw [← e]
      cases decide (macAt x.macros y.id ≠ (k : Int)) with
      | true => simp only [Bool.not_true, Bool.and_false, Bool.false_and]; exact Tr.tt rfl Tr.val
      | false =>
      simp only [Bool.not_false, Bool.and_true]
      refine Tr.ff rfl (Tr.bind (l5Rules_tr _ _ (fun r hr => ⟨⟨(hl.2.2 r hr).1, (hf.r r hr).p⟩, ⟨(hl.2.2 r hr).2, (hf.r r hr).t⟩⟩) hf.l hl.1) ?_)
      cases rulesOkB y.rules y.literals with
      | false => exact Tr.tt rfl Tr.val
      | true => exact Tr.ff rfl ih
  have l3 : Tr (fun m => z8 m x 0) (alls (exBind x.id) x.binds && macF x.id [] x.macros) := by
    have key := zae x.binds (fun k zs => Tr (fun m => z8 m x (k : Int)) (alls (exBind x.id) zs && macF x.id [] x.macros)) ?_ ?_ 0 (Nat.zero_le _)
    · simpa using key
    · refine Tr.step (fun m => by rw [z8, zac, cond_false]) (Tr.step (fun m => by rw [zbZ]) ?_)
      rw [alls, Bool.true_and]; exact l4
    · intro k y zs hk hy hd ih
      refine Tr.step (fun m => by rw [z8, ltN hk, cond_true, zP hy, Option.bind_some, Option.bind_some, Option.bind_some, zcJ]) ?_
      rw [alls, exBind]
      unfold insB
      by_cases h1 : x.id < y.id
      · rw [decide_eq_true h1]; exact Tr.tt rfl Tr.val
      rw [decide_eq_false h1, Bool.false_or]
      refine Tr.ff rfl ?_
      by_cases h2 : 5 < y.id
      · rw [decide_eq_true (show 6 ≤ y.id by omega), Bool.true_and]
        refine Tr.tt (decide_eq_true h2) ?_
        cases decide (y.id ≤ 10) with
        | true => exact Tr.tt rfl Tr.val
        | false => exact Tr.ff rfl (by simpa using ih)
      · rw [decide_eq_false (show ¬ 6 ≤ y.id by omega), Bool.false_and]
        exact Tr.ff (decide_eq_false h2) (by simpa using ih)
  have j1 : ∀ b : Bool, Tr (fun m => zaa m x b) (!b && (alls (exBind x.id) x.binds && macF x.id [] x.macros)) := by
    intro b
    refine Tr.step (fun m => by rw [zaa]) ?_
    cases b with
    | true => exact Tr.tt rfl Tr.val
    | false => exact Tr.ff rfl (by rw [Bool.not_false, Bool.true_and]; exact l3)
  refine Tr.eq (fun m => by unfold zct; rfl) (Tr.bind (specBindsValid_tr _ hx.b) ?_)
  unfold exOk exHead
  cases bvOk x.binds with
  | false => exact Tr.tt rfl (j1 true)
  | true =>
  refine Tr.ff rfl ?_
  rw [Bool.true_and]
  cases decide (60 < (x.macros.length : Int)) with
  | true => simp only [Bool.not_true, Bool.and_false, Bool.false_and]; exact Tr.tt rfl (j1 true)
  | false =>
  simp only [Bool.not_false, Bool.and_true]
  refine Tr.ff rfl (Tr.bind (l7In_tr _ _ _) ?_)
  cases insB x.scope 0 99 with
  | false => exact Tr.tt rfl (j1 true)
  | true =>
  refine Tr.ff rfl (Tr.bind (l7In_tr _ _ _) ?_)
  cases insB x.id 10 999 with
  | false => exact Tr.tt rfl (j1 true)
  | true =>
  refine Tr.ff rfl (Tr.bind (l7In_tr _ _ _) ?_)
  have := j1 (!insB x.steps 0 60)
  rw [Bool.not_not] at this
  simpa using this
end Go.Abs
end
section
set_option linter.unusedVariables false
set_option linter.unusedSimpArgs false
namespace Go.Abs
def HitD : Nat → Hit → Prop
  | 0, h => h.depth = 0 ∧ h.one.valid = true ∧ h.many = []
  | d + 1, h => h.depth = (d : Int) + 1 ∧ h.one = form0 ∧ h.many.length ≤ 400 ∧ ∀ x ∈ h.many, x.name = h.name ∧ HitD d x
def nameG (f : Form) : Bool := isNm f && (!decide (f.name = dotsN) && !decide (f.name = underN))
theorem HitD.depth {d : Nat} {h : Hit} (hd : HitD d h) : h.depth = (d : Int) := by
  cases d with
  | zero => exact hd.1
  | succ d => rw [hd.1]; omega
theorem HitD.isOk : ∀ (d : Nat) (h : Hit), d ≤ 3 → HitD d h → nameG h.name = true → h.isOk = true
  | 0, h, hd, hh, hn => by
    obtain ⟨h1, h2, h3⟩ := hh
    unfold nameG at hn
    simp only [Bool.and_eq_true] at hn
    rw [Hit.isOk_eq, hn.1, hn.2.1, hn.2.2, h1, h2, h3]; rfl
  | d + 1, h, hd, hh, hn => by
    obtain ⟨h1, h2, h3, h4⟩ := hh
    have hn0 := hn
    unfold nameG at hn
    simp only [Bool.and_eq_true] at hn
    rw [Hit.isOk_eq, hn.1, hn.2.1, hn.2.2, h1, h2, zfB, decide_eq_false (show ¬ (d : Int) + 1 = 0 by omega), decide_eq_true (show (0 : Int) ≤ (d : Int) + 1 by omega), decide_eq_true (show (d : Int) + 1 ≤ 3 by omega), decide_eq_true (show (h.many.length : Int) ≤ 400 by omega)]
    simp only [Bool.true_and, cond_false]
    rw [zfP]
    intro x hx
    obtain ⟨e1, e2⟩ := h4 x hx
    rw [e1, zfB, e2.depth, decide_eq_true (show (d : Int) = (d : Int) + 1 - 1 by omega), HitD.isOk d x (by omega) e2 (by rw [e1]; exact hn0)]
    rfl
theorem hvF_of : ∀ {l : List Hit} {ps : List Hit}, (∀ x ∈ l, x.isOk = true) → distF (ps.map Hit.name) (l.map Hit.name) = true → hvF ps l = true
  | [], ps, _, _ => by rw [hvF]
  | x :: l, ps, h, hd => by
    rw [List.map_cons, distF, Bool.and_eq_true] at hd
    rw [hvF, Bool.and_eq_true, Bool.and_eq_true]
    refine ⟨h x (by simp), ?_, hvF_of (fun y hy => h y (by simp [hy])) (by rw [List.map_append]; exact hd.2)⟩
    have h1 := hd.1
    unfold inF at h1
    rw [Bool.not_not, zfP] at h1
    rw [zfP]
    exact fun y hy => h1 y.name (List.mem_map_of_mem hy)
end Go.Abs
end
section
set_option linter.unusedVariables false
set_option linter.unusedSimpArgs false
namespace Go.Abs
theorem hvF_apart : ∀ {l ps : List Hit}, hvF ps l = true → ∀ h ∈ l, ∀ p ∈ ps, same p.name h.name = false
  | x :: xs, ps, hv, h, hh, p, hp => by
    rw [hvF, Bool.and_eq_true, Bool.and_eq_true] at hv
    rcases List.mem_cons.1 hh with rfl | hh
    · have := zfP.1 hv.2.1 p hp
      simpa using this
    · exact hvF_apart hv.2.2 h hh p (List.mem_append_left _ hp)
theorem hv_dep : ∀ {l ps : List Hit}, hvF ps l = true → ∀ h ∈ l, depF (nd l) h.name = h.depth
  | x :: xs, ps, hv, h, hh => by
    have hv' := hv
    rw [hvF, Bool.and_eq_true, Bool.and_eq_true] at hv
    show depF ((x.name, x.depth) :: nd xs) h.name = h.depth
    rw [depF]
    rcases List.mem_cons.1 hh with rfl | hh
    · rw [zfB, cond_true]
    · rw [hvF_apart hv.2.2 h hh x (by simp), cond_false]
      exact hv_dep hv.2.2 h hh
end Go.Abs
end
section
set_option linter.unusedVariables false
set_option linter.unusedSimpArgs false
namespace Go.Abs
def oR (o : Option (List Hit)) : List Hit × Bool := (o.getD [], o.isSome)
structure MatS (bs : List Bind) (lits : List Form) (P F : Form) : Prop where
  kid : ∀ x ∈ P.kids, KidS x
  ih : ∀ x ∈ P.kids, zab x = false → ∀ f ∈ F.kids, Tr (fun m => m_impl_match m bs x lits f) (oR (x.mt bs lits f))
  wp : Form.ws P.kids ≤ 2 ^ 17
  wf : Form.ws F.kids ≤ 2 ^ 17
section
variable {bs : List Bind} {lits : List Form} {P F : Form}
structure RowS (P F : Form) (xs : List Form) (pr dd : Form) (tail : List Form) : Prop where
  eq : P.kids = xs ++ pr :: dd :: tail
  pre : ∀ x ∈ xs, zab x = false
  row : zab pr = false
  dots : zab dd = true
  post : ∀ x ∈ tail, zab x = false
  len : xs.length + tail.length ≤ F.kids.length
def RowS.many (F : Form) (xs tail : List Form) : Nat := F.kids.length - (xs.length + tail.length)
variable {xs tail : List Form} {pr dd : Form}
theorem RowS.plen (hR : RowS P F xs pr dd tail) : P.kids.length = xs.length + 2 + tail.length := by rw [hR.eq]; simp; omega
theorem RowS.lens (hS : MatS bs lits P F) (hR : RowS P F xs pr dd tail) : P.kids.length ≤ 2 ^ 17 ∧ F.kids.length ≤ 2 ^ 17 := ⟨Nat.le_trans (Form.ws_len _) hS.wp, Nat.le_trans (Form.ws_len _) hS.wf⟩
theorem RowS.row_eq (hS : MatS bs lits P F) (hR : RowS P F xs pr dd tail) : w64 ((((xs.length + 1 : Nat) : Int)) - 1) = ((xs.length : Nat) : Int) := by
  have h1 := RowS.lens hS hR
  have h2 := hR.plen
  rw [zcI (by omega)]; omega
end
end Go.Abs
end
section
set_option linter.unusedVariables false
set_option linter.unusedSimpArgs false
namespace Go.Abs
theorem PatS.kind {p : Form} (h : PatS p) (h1 : ¬ p.kind = 1) (h2 : ¬ p.kind = 2) : p.kind = 3 := by
  obtain ⟨d, hd⟩ := h.ok
  rw [Form.isOk_eq] at hd
  cases hd0 : decide (d = 0) with
  | true => rw [hd0] at hd; cases hd
  | false =>
    rw [hd0, cond_false, decide_eq_false h1, cond_false, decide_eq_false h2, cond_false, Bool.and_eq_true, decide_eq_true_eq] at hd
    exact hd.1
theorem cnt_eq (f : Form) : f.cnt = 1 + Form.cnts f.kids := by obtain ⟨a, b, c, d, e⟩ := f; rw [Form.cnt]; rfl
end Go.Abs
end
section
set_option linter.unusedVariables false
set_option linter.unusedSimpArgs false
namespace Go.Abs
theorem isOk_w : ∀ (n : Nat) (f : Form), f.w ≤ n → ∀ d, f.isOk d = true → f.w + 1 ≤ 26 * f.cnt := by
  intro n
  induction n with
  | zero => intro f h; have := f.w_kids; omega
  | succ n ih =>
    intro f hn d hd
    have hw := f.w_kids
    have hc := cnt_eq f
    obtain ⟨k1, k2⟩ := isOk_kids hd
    have hsc : f.scopes.length ≤ 24 := by
      rw [Form.isOk_eq] at hd
      cases hd0 : decide (d = 0) with
      | true => rw [hd0] at hd; cases hd
      | false =>
      rw [hd0, cond_false] at hd
      by_cases h1 : f.kind = 1
      · rw [decide_eq_true h1, cond_true] at hd
        unfold scOk at hd
        simp only [Bool.and_eq_true, decide_eq_true_eq] at hd
        omega
      · rw [decide_eq_false h1, cond_false] at hd
        by_cases h2 : f.kind = 2
        · rw [decide_eq_true h2, cond_true] at hd
          simp only [Bool.and_eq_true, decide_eq_true_eq] at hd
          omega
        · rw [decide_eq_false h2, cond_false] at hd
          simp only [Bool.and_eq_true, decide_eq_true_eq] at hd
          omega
    have hk : Form.ws f.kids ≤ 26 * Form.cnts f.kids := by
      have : ∀ l : List Form, (∀ x ∈ l, x ∈ f.kids) → Form.ws l ≤ 26 * Form.cnts l := by
        intro l
        induction l with
        | nil => intro _; rw [Form.ws]; omega
        | cons x l ihl =>
          intro hx
          have h1 := ihl (fun y hy => hx y (by simp [hy]))
          have hm := hx x (by simp)
          have h2 := Form.ws_mem hm
          have h3 := ih x (by omega) _ (k2 x hm)
          rw [Form.cnts, Form.ws]; omega
      exact this _ (fun x hx => hx)
    omega
structure RulesF (rules : List Rule) : Prop where
  fit : ∀ r ∈ rules, r.fit
  pw : ∀ r ∈ rules, r.pattern.w ≤ 2 ^ 36
  tw : ∀ r ∈ rules, r.template.w ≤ 2 ^ 36
end Go.Abs
end
section
set_option linter.unusedVariables false
set_option linter.unusedSimpArgs false
namespace Go.Abs
noncomputable def deepB (x : Form) (h : Hit) : Bool := Form.part h.name x && !decide (h.depth = 0)
noncomputable def nthR (x : Form) (n : Nat) (hs : List Hit) : List Hit := hs.map fun h => bif deepB x h then h.many.getD n hit0 else h
def DepR (l : List (Form × Int)) (v : Nat) (hs : List Hit) (x : Form) : Prop := ∀ g, Form.part g x = true → (0 < dep l g - v ∨ 0 < dep (nd hs) g) → dep (nd hs) g = dep l g - v
structure FillS (l : List (Form × Int)) (v : Nat) (hs : List Hit) (x : Form) : Prop where
  hv : hvOk hs = true
  rws : x.rws l v = true
  ok : ∃ d, x.isOk d = true
  R : DepR l v hs x
theorem part_self (x : Form) : Form.part x x = true := by rw [Form.part_eq, zfB, Bool.true_or]
theorem part_kid {g x f : Form} (hx : x ∈ f.kids) (h : Form.part g x = true) : Form.part g f = true := by
  rw [Form.part_eq, parts_mem hx h, Bool.or_true]
theorem kR_kid {l : List (Form × Int)} {v : Nat} : ∀ {zs : List Form} {i : Nat} {x : Form}, Form.kR l v zs = true → zs[i]? = some x → zab x = false → bif zht (zs.drop (i + 1)) then x.anyD l v = true ∧ x.rws l (v + 1) = true else x.rws l v = true
  | y :: ys, 0, x, h, hx, hd => by
    simp at hx; subst hx
    rw [Form.kR, Bool.and_eq_true, hd, cond_false] at h
    have h1 := h.1
    simp only [List.drop_succ_cons, List.drop_zero]
    cases hn : zht ys with
    | true => rw [hn, cond_true, Bool.and_eq_true] at h1; exact h1
    | false => rw [hn, cond_false] at h1; exact h1
  | y :: ys, i + 1, x, h, hx, hd => by
    rw [Form.kR, Bool.and_eq_true] at h
    have := kR_kid (zs := ys) (i := i) (x := x) h.2 (by simpa using hx) hd
    simpa using this
mutual
theorem anyD_ex {l : List (Form × Int)} {v : Int} : ∀ f : Form, f.anyD l v = true → ∃ g, Form.part g f = true ∧ v < dep l g
  | .mk a b c d e, h => by
    rw [Form.anyD, Bool.or_eq_true] at h
    rcases h with h | h
    · exact ⟨_, part_self _, of_decide_eq_true h⟩
    · obtain ⟨g, h1, h2⟩ := anyDs_ex e h
      exact ⟨g, by rw [Form.part, h1, Bool.or_true], h2⟩
theorem anyDs_ex {l : List (Form × Int)} {v : Int} : ∀ zs : List Form, Form.anyDs l v zs = true → ∃ g, Form.parts g zs = true ∧ v < dep l g
  | [], h => by rw [Form.anyDs] at h; cases h
  | x :: xs, h => by
    rw [Form.anyDs, Bool.or_eq_true] at h
    rcases h with h | h
    · obtain ⟨g, h1, h2⟩ := anyD_ex x h
      exact ⟨g, by rw [Form.parts, h1, Bool.true_or], h2⟩
    · obtain ⟨g, h1, h2⟩ := anyDs_ex xs h
      exact ⟨g, by rw [Form.parts, h1, Bool.or_true], h2⟩
end
theorem hvOk_all {hs : List Hit} (h : hvOk hs = true) : (∀ x ∈ hs, x.isOk = true) ∧ hs.length ≤ 20 := by
  unfold hvOk at h
  rw [Bool.and_eq_true, decide_eq_true_eq] at h
  refine ⟨?_, by omega⟩
  have : ∀ {l ps : List Hit}, hvF ps l = true → ∀ x ∈ l, x.isOk = true := by
    intro l
    induction l with
    | nil => intro ps _ x hx; cases hx
    | cons y ys ih =>
      intro ps hv x hx
      rw [hvF, Bool.and_eq_true, Bool.and_eq_true] at hv
      rcases List.mem_cons.1 hx with rfl | hx
      · exact hv.1
      · exact ih hv.2.2 x hx
  exact this h.1
theorem isOk_hit {h : Hit} (hk : h.isOk = true) : isNm h.name = true ∧ (0 ≤ h.depth ∧ h.depth ≤ 3) ∧ (h.depth = 0 → h.one.valid = true ∧ h.many = []) ∧ (h.depth ≠ 0 → h.many.length ≤ 400 ∧ ∀ y ∈ h.many, y.name = h.name ∧ y.depth = h.depth - 1 ∧ y.isOk = true) := by
  rw [Hit.isOk_eq] at hk
  simp only [Bool.and_eq_true, decide_eq_true_eq] at hk
  obtain ⟨a, _, _, b, c⟩ := hk
  refine ⟨a, b, fun h0 => ?_, fun h0 => ?_⟩
  · rw [decide_eq_true h0, cond_true, Bool.and_eq_true, decide_eq_true_eq] at c
    exact ⟨c.1, List.eq_nil_of_length_eq_zero (by omega)⟩
  · rw [decide_eq_false h0, cond_false, Bool.and_eq_true, Bool.and_eq_true, decide_eq_true_eq] at c
    refine ⟨by omega, fun y hy => ?_⟩
    have := zfP.1 c.2.2 y hy
    rw [Bool.and_eq_true, Bool.and_eq_true, decide_eq_true_eq] at this
    exact ⟨zgo.1 this.1, this.2.1, this.2.2⟩
theorem hv_name {hs : List Hit} (hv : hvOk hs = true) {h : Hit} (hm : h ∈ hs) : dep (nd hs) h.name = h.depth := by
  have hn := (isOk_hit ((hvOk_all hv).1 h hm)).1
  unfold hvOk at hv
  rw [Bool.and_eq_true] at hv
  unfold isNm at hn
  rw [Bool.and_eq_true, decide_eq_true_eq] at hn
  unfold dep
  rw [decide_eq_false (by simp [hn.1]), cond_false]
  exact hv_dep hv.1 h hm
theorem depF_none {f : Form} : ∀ {l : List Hit}, (∀ h ∈ l, h.name ≠ f) → depF (nd l) f = -1
  | [], _ => rfl
  | x :: xs, h => by
    show depF ((x.name, x.depth) :: nd xs) f = -1
    rw [depF, same_ne (h x (by simp)), cond_false, depF_none (fun y hy => h y (by simp [hy]))]
theorem dep_cases {hs : List Hit} (hv : hvOk hs = true) (g : Form) : (∃ h ∈ hs, h.name = g ∧ dep (nd hs) g = h.depth) ∨ ((∀ h ∈ hs, h.name ≠ g) ∧ dep (nd hs) g = -1) := by
  by_cases hx : ∃ h ∈ hs, h.name = g
  · obtain ⟨h, hm, rfl⟩ := hx
    exact .inl ⟨h, hm, rfl, hv_name hv hm⟩
  · have hn : ∀ h ∈ hs, h.name ≠ g := fun h hm he => hx ⟨h, hm, he⟩
    refine .inr ⟨hn, ?_⟩
    unfold dep
    cases decide (g.kind ≠ 1) with
    | true => rfl
    | false => rw [cond_false]; exact depF_none hn
theorem FillS.kid {l : List (Form × Int)} {v : Nat} {hs : List Hit} {f x : Form} (hF : FillS l v hs f) {i : Nat} (hx : f.kids[i]? = some x) (hd : zab x = false) (hn : zht (f.kids.drop (i + 1)) = false) : FillS l v hs x := by
  have hm := List.mem_of_getElem? hx
  have hr := hF.rws
  rw [Form.rws_eq, Bool.and_eq_true] at hr
  have := kR_kid hr.2 hx hd
  rw [hn, cond_false] at this
  obtain ⟨d, hok⟩ := hF.ok
  exact ⟨hF.hv, this, ⟨_, (isOk_kids hok).2 x hm⟩, fun g hg => hF.R g (part_kid hm hg)⟩
theorem many_mem {h : Hit} {n : Nat} (hn : n < h.many.length) : h.many.getD n hit0 ∈ h.many := by
  rw [List.getD_eq_getElem?_getD, List.getElem?_eq_getElem hn]; exact List.getElem_mem hn
theorem nthR_names {x : Form} {n : Nat} : ∀ {hs : List Hit}, (∀ h ∈ hs, h.isOk = true) → (∀ h ∈ hs, deepB x h = true → n < h.many.length) → (nthR x n hs).map Hit.name = hs.map Hit.name
  | [], _, _ => rfl
  | h :: hs, hk, hn => by
    have ih := nthR_names (x := x) (n := n) (hs := hs) (fun y hy => hk y (by simp [hy])) (fun y hy => hn y (by simp [hy]))
    show (bif deepB x h then h.many.getD n hit0 else h).name :: (nthR x n hs).map Hit.name = h.name :: hs.map Hit.name
    rw [ih]
    cases hd : deepB x h with
    | false => rfl
    | true =>
      rw [cond_true]
      have h0 : h.depth ≠ 0 := by
        unfold deepB at hd
        rw [Bool.and_eq_true, Bool.not_eq_true', decide_eq_false_iff_not] at hd
        exact hd.2
      rw [(((isOk_hit (hk h (by simp))).2.2.2 h0).2 _ (many_mem (hn h (by simp) hd))).1]
theorem hvF_dist : ∀ {l ps : List Hit}, hvF ps l = true → distF (ps.map Hit.name) (l.map Hit.name) = true
  | [], ps, _ => rfl
  | x :: xs, ps, h => by
    rw [hvF, Bool.and_eq_true, Bool.and_eq_true] at h
    have ih := hvF_dist h.2.2
    rw [List.map_append] at ih
    rw [List.map_cons, distF]
    have h1 : inF (ps.map Hit.name) x.name = false := by
      unfold inF
      rw [zfP.2 (fun y hy => ?_)]
      · rfl
      · obtain ⟨z, hz, rfl⟩ := List.mem_map.1 hy
        exact zfP.1 h.2.1 z hz
    rw [h1]; simpa using ih
theorem nthR_hv {x : Form} {n : Nat} {hs : List Hit} (hv : hvOk hs = true) (hn : ∀ h ∈ hs, deepB x h = true → n < h.many.length) : hvOk (nthR x n hs) = true := by
  obtain ⟨h1, h2⟩ := hvOk_all hv
  have hnm := nthR_names h1 hn
  unfold hvOk at hv ⊢
  rw [Bool.and_eq_true] at hv ⊢
  refine ⟨hvF_of (fun y hy => ?_) ?_, ?_⟩
  · obtain ⟨h, hm, rfl⟩ := List.mem_map.1 hy
    cases hd : deepB x h with
    | false => exact h1 h hm
    | true =>
      rw [cond_true]
      have h0 : h.depth ≠ 0 := by
        unfold deepB at hd
        rw [Bool.and_eq_true, Bool.not_eq_true', decide_eq_false_iff_not] at hd
        exact hd.2
      exact (((isOk_hit (h1 h hm)).2.2.2 h0).2 _ (many_mem (hn h hm hd))).2.2
  · rw [hnm]; exact hvF_dist hv.1
  · have : (nthR x n hs).length = hs.length := by unfold nthR; rw [List.length_map]
    rw [this]; exact hv.2
theorem FillS.row {l : List (Form × Int)} {v : Nat} {hs : List Hit} {f x : Form} (hF : FillS l v hs f) {i : Nat} (hx : f.kids[i]? = some x) (hd : zab x = false) (hn : zht (f.kids.drop (i + 1)) = true) :
    (∃ h ∈ hs, deepB x h = true) ∧ ∀ n, (∀ h ∈ hs, deepB x h = true → n < h.many.length) → FillS l (v + 1) (nthR x n hs) x := by
  have hm := List.mem_of_getElem? hx
  have hr := hF.rws
  rw [Form.rws_eq, Bool.and_eq_true] at hr
  have hk := kR_kid hr.2 hx hd
  rw [hn, cond_true] at hk
  obtain ⟨d, hok⟩ := hF.ok
  refine ⟨?_, fun n hlen => ⟨nthR_hv hF.hv hlen, hk.2, ⟨_, (isOk_kids hok).2 x hm⟩, fun g hg hpos => ?_⟩⟩
  · obtain ⟨g, h1, h2⟩ := anyD_ex x hk.1
    have hR := hF.R g (part_kid hm h1) (.inl (by omega))
    rcases dep_cases hF.hv g with ⟨h, hmem, rfl, he⟩ | ⟨_, he⟩
    · refine ⟨h, hmem, ?_⟩
      unfold deepB
      rw [h1, Bool.true_and, decide_eq_false (by omega)]; rfl
    · omega
  · have hR := hF.R g (part_kid hm hg)
    rcases dep_cases hF.hv g with ⟨h, hmem, rfl, he⟩ | ⟨hno, he⟩
    · have hin : (bif deepB x h then h.many.getD n hit0 else h) ∈ nthR x n hs := List.mem_map.2 ⟨h, hmem, rfl⟩
      have hok := isOk_hit ((hvOk_all hF.hv).1 h hmem)
      by_cases h0 : h.depth = 0
      · have hdp : deepB x h = false := by unfold deepB; rw [decide_eq_true h0]; simp
        rw [hdp, cond_false] at hin
        have := hv_name (nthR_hv hF.hv hlen) hin
        rcases hpos with hp | hp
        · have := hR (.inl (by omega)); omega
        · omega
      · have hdp : deepB x h = true := by unfold deepB; rw [hg, decide_eq_false h0]; rfl
        rw [hdp, cond_true] at hin
        have hnm := (hok.2.2.2 h0).2 _ (many_mem (hlen h hmem hdp))
        have h2 := hv_name (nthR_hv hF.hv hlen) hin
        rw [hnm.1, hnm.2.1] at h2
        have := hR (.inr (by have := hok.2.1.1; omega))
        rw [h2]; omega
    · have h2 : dep (nd (nthR x n hs)) g = -1 := by
        rcases dep_cases (nthR_hv hF.hv hlen) g with ⟨h', hmem', hnm', _⟩ | ⟨_, he'⟩
        · have : h'.name ∈ (nthR x n hs).map Hit.name := List.mem_map.2 ⟨h', hmem', rfl⟩
          rw [nthR_names (hvOk_all hF.hv).1 hlen] at this
          obtain ⟨h, hmem, hnm⟩ := List.mem_map.1 this
          exact absurd (hnm.trans hnm') (hno h hmem)
        · exact he'
      rcases hpos with hp | hp
      · have := hR (.inl (by omega)); omega
      · omega
theorem FillS.leaf {l : List (Form × Int)} {v : Nat} {hs : List Hit} {x : Form} (hF : FillS l v hs x) : hAt hs x = -1 ∨ ∃ i h, hAt hs x = ((i : Nat) : Int) ∧ hs[i]? = some h ∧ h.depth = 0 ∧ h.one.valid = true := by
  rcases fnd_at (D := fun y : Hit => same y.name x) (l := hs) (k := 0) with ⟨h1, _⟩ | ⟨i, h, h1, h2, h3, _⟩
  · exact .inl h1
  · have hm := List.mem_of_getElem? h2
    have hn : h.name = x := zgo.1 h3
    have hok := isOk_hit ((hvOk_all hF.hv).1 h hm)
    have hd := hv_name hF.hv hm
    rw [hn] at hd
    have hr := hF.rws
    rw [Form.rws_eq, Bool.and_eq_true, Bool.not_eq_true', decide_eq_false_iff_not] at hr
    have h0 : h.depth = 0 := by
      by_cases hp : 0 < h.depth
      · have := hF.R x (part_self x) (.inr (by omega)); omega
      · have := hok.2.1.1; omega
    exact .inr ⟨i, h, by unfold hAt; rw [h1, Nat.zero_add], h2, h0, (hok.2.2.1 h0).1⟩
structure FormF (y : Form) : Prop where
  ok : ∃ d, y.isOk d = true
  cnt : y.cnt ≤ 401
theorem FormF.w {y : Form} (h : FormF y) : y.w ≤ 10426 := by
  obtain ⟨d, hd⟩ := h.ok
  have := isOk_w _ y (Nat.le_refl _) d hd
  have := h.cnt; omega
end Go.Abs
end
section
set_option linter.unusedVariables false
set_option linter.unusedSimpArgs false
namespace Go.Abs
theorem kD_prev : ∀ {zs : List Form} {pd sn : Bool} {i : Nat} {x : Form}, Form.kD false pd sn zs = true → zs[i]? = some x → zab x = true → (i = 0 ∧ pd = false) ∨ ∃ j y, i = j + 1 ∧ zs[j]? = some y ∧ zab y = false
  | z :: zs, pd, sn, 0, x, h, hx, hd => by
    simp at hx; subst hx
    rw [Form.kD, hd, cond_true, Bool.and_eq_true, Bool.and_eq_true, Bool.not_eq_true'] at h
    exact .inl ⟨rfl, h.1.1⟩
  | z :: zs, pd, sn, i + 1, x, h, hx, hd => by
    rw [Form.kD, Bool.and_eq_true] at h
    rcases kD_prev (zs := zs) (i := i) h.2 (by simpa using hx) hd with ⟨rfl, h2⟩ | ⟨j, y, rfl, hy, hyd⟩
    · exact .inr ⟨0, z, rfl, rfl, h2⟩
    · exact .inr ⟨j + 1, y, rfl, by simpa using hy, hyd⟩
theorem FillS.plain {l : List (Form × Int)} {v : Nat} {hs : List Hit} {f : Form} (hF : FillS l v hs f) (hd : f.dotsOk false = true) (hno : ∀ h ∈ hs, Form.part h.name f = false) : ∀ x ∈ f.kids, zab x = false := by
  intro x hx
  rw [Bool.eq_false_iff]
  intro hdx
  obtain ⟨i, hi⟩ := List.getElem?_of_mem hx
  rw [Form.dotsOk_eq] at hd
  rcases kD_prev hd hi hdx with ⟨_, h⟩ | ⟨j, y, rfl, hy, hyd⟩
  · cases h
  · have hnx : zht (f.kids.drop (j + 1)) = true := by
      rw [drop_get hi]; exact hdx
    obtain ⟨⟨h, hm, hdp⟩, _⟩ := hF.row hy hyd hnx
    unfold deepB at hdp
    rw [Bool.and_eq_true] at hdp
    have := part_kid (List.mem_of_getElem? hy) hdp.1
    rw [hno h hm] at this; cases this
end Go.Abs
end
section
set_option linter.unusedVariables false
set_option linter.unusedSimpArgs false
set_option maxHeartbeats 4000000
namespace Go.Abs
section
variable {α : Type}
theorem zf2 (d : List α) (x : α) (xs : List α) : decide ((d.length : Int) < ((d ++ x :: xs).length : Int)) = true := by simp; omega
theorem zf3 (d : List α) : decide ((d.length : Int) < ((d ++ []).length : Int)) = false := by simp
theorem zfs (d : List α) (x : α) (xs : List α) : idx (d ++ x :: xs) (d.length : Int) = some x := zP (by simp)
theorem zg9 (d : List α) (x y : α) (xs : List α) : (d ++ x :: xs).set ((d.length : Int)).toNat y = d ++ y :: xs := by simp
theorem zdH (d : List α) (y : α) (xs : List α) : d ++ y :: xs = (d ++ [y]) ++ xs := by simp
theorem mk_mid_len (d : List α) (y : α) : (d.length : Int) + 1 = ((d ++ [y]).length : Int) := by simp
theorem zhu (d : List α) (y : α) (h : d.length ≤ 4611686018427387904) : w64 ((d.length : Int) + 1) = ((d ++ [y]).length : Int) := by
  rw [zcI (by omega)]; simp
end
theorem zgO {k : Int} (h0 : 0 ≤ k) (h1 : k ≤ 4611686018427387904) : w64 (k + 1) = k + 1 := zcI (by omega)
theorem zbl {α : Type} [DecidableEq α] (x : α) : decide (x ≠ x) = false := by simp
theorem zdG {k : Int} (h : 0 ≤ k) : decide (k < 0) = false := by simpa using h
theorem markText_loop : ∀ (n : Nat) (k : Nat) (s : ByteArray), k < 2 ^ n → s.size + n ≤ 1000 → n ≤ 63 → ∃ t, Tr (fun m => zbh m (k : Int) s) t := by
  intro n
  induction n with
  | zero =>
    intro k s hk hs hn
    have : k = 0 := by omega
    subst this
    refine ⟨(⟨#[109]⟩ : ByteArray) ++ s, Tr.step (fun m => by rw [zbh, show decide ((0 : Int) < ((0 : Nat) : Int)) = false from rfl, cond_false]) (Tr.of fun m => ?_)⟩
    · rw [bcat, decide_eq_true (by have : (⟨#[109]⟩ : ByteArray).size = 1 := rfl; omega)]; rfl
  | succ n ih =>
    intro k s hk hs hn
    by_cases h0 : k = 0
    · subst h0
      refine ⟨(⟨#[109]⟩ : ByteArray) ++ s, Tr.step (fun m => by rw [zbh, show decide ((0 : Int) < ((0 : Nat) : Int)) = false from rfl, cond_false]) (Tr.of fun m => ?_)⟩
      · rw [bcat, decide_eq_true (by have : (⟨#[109]⟩ : ByteArray).size = 1 := rfl; omega)]; rfl
    · have hk2 : k / 10 < 2 ^ n := by rw [Nat.pow_succ] at hk; omega
      have hp : (2 : Nat) ^ (n + 1) ≤ 2 ^ 63 := Nat.pow_le_pow_right (by omega) (by omega)
      have hsz : (strOf [(w8 (w64 (48 + ((k : Int).tmod 10))))]).size = 1 := rfl
      have hsz2 : (strOf [(w8 (w64 (48 + ((k : Int).tmod 10))))] ++ s).size = 1 + s.size := by rw [ByteArray.size_append, hsz]
      obtain ⟨t, ht⟩ := ih (k / 10) (strOf [(w8 (w64 (48 + ((k : Int).tmod 10))))] ++ s) hk2 (by rw [hsz2]; omega) (by omega)
      refine ⟨t, Tr.step (fun m => by rw [zbh, decide_eq_true (show (0 : Int) < (k : Int) by omega), cond_true, bcat, decide_eq_true (by rw [hsz]; omega), cond_true, Option.bind_some]) ?_⟩
      refine Tr.eq (fun m => ?_) ht
      have : w64 ((k : Int).tdiv 10) = ((k / 10 : Nat) : Int) := by
        rw [show ((k : Int).tdiv 10) = ((k / 10 : Nat) : Int) from rfl, zcI (by omega)]
      rw [this]
theorem zhv {k : Int} (h0 : 0 ≤ k) (h1 : k ≤ 4611686018427387905) : ∃ t, Tr (fun m => za0 m k) t := by
  by_cases hk : k ≤ 0
  · exact ⟨_, Tr.of fun m => by rw [za0, decide_eq_true hk]; rfl⟩
  · obtain ⟨n, rfl⟩ := Int.eq_ofNat_of_zero_le h0
    obtain ⟨t, ht⟩ := markText_loop 63 n ⟨#[]⟩ (by omega) (by decide) (Nat.le_refl _)
    exact ⟨t, Tr.eq (fun m => by rw [za0, decide_eq_false hk, cond_false]) ht⟩
def MH {α : Type} (M : Nat → List α → Int → Option (Int × List α)) (H : Nat → List α → Int → Option Int) (l : List α) (b : Nat) : Prop :=
  ∀ k : Int, 0 ≤ k → k + b ≤ 4611686018427387904 → ∃ v ys, Tr (fun m => M m l k) (v, ys) ∧ k ≤ v ∧ v ≤ k + b ∧ Tr (fun m => H m ys k) v
theorem markInt_loop : ∀ (xs d : List Int) (k : Int), 0 ≤ k → k + xs.length ≤ 4611686018427387904 → ∃ v ys, Tr (fun m => zbM m k (d.length : Int) (d ++ xs)) (v, d ++ ys) ∧ k ≤ v ∧ v ≤ k + xs.length ∧ ∀ d' : List Int, Tr (fun m => zbN m (d' ++ ys) k (d'.length : Int)) v
  | [], d, k, h0, h1 => ⟨k, [], Tr.step (fun m => by rw [zbM, zf3, cond_false]) Tr.val, Int.le_refl _, by omega, fun d' => Tr.step (fun m => by rw [zbN, zf3, cond_false]) Tr.val⟩
  | x :: xs, d, k, h0, h1 => by
    rw [List.length_cons] at h1
    obtain ⟨v, ys, a1, a2, a3, a4⟩ := markInt_loop xs (d ++ [k]) (k + 1) (by omega) (by omega)
    refine ⟨v, k :: ys, ?_, by omega, by rw [List.length_cons]; omega, fun d' => ?_⟩
    · refine Tr.step (fun m => by rw [zbM, zf2, cond_true, zfs, Option.bind_some, zg9]) ?_
      refine Tr.eq (fun m => ?_) (zdH d k ys ▸ a1)
      rw [zgO h0 (by omega), mk_mid_len d k, zdH d k xs]
    · refine Tr.step (fun m => by rw [zbN, zf2, cond_true, zfs, Option.bind_some, zbl, cond_false]) ?_
      refine Tr.eq (fun m => ?_) (a4 (d' ++ [k]))
      rw [zgO h0 (by omega), mk_mid_len d' k, zdH d' k ys]
theorem mhInt (l : List Int) : MH zcu zc2 l l.length := fun k h0 h1 => by
  obtain ⟨v, ys, a1, a2, a3, a4⟩ := markInt_loop l [] k h0 h1
  exact ⟨v, ys, Tr.eq (fun m => by unfold zcu; rfl) a1, a2, a3, Tr.eq (fun m => by unfold zc2; rfl) (a4 [])⟩
theorem zhw : ∀ (xs d : List Form) (k : Int), (∀ x ∈ xs, MH zaC zaI x.kids (3 * Form.ws x.kids)) → d.length + xs.length ≤ 4611686018427387904 → 0 ≤ k → k + (3 * Form.ws xs : Nat) ≤ 4611686018427387904 →
    ∃ v ys, Tr (fun m => zbt m k (d.length : Int) (d ++ xs)) (v, d ++ ys) ∧ k ≤ v ∧ v ≤ k + (3 * Form.ws xs : Nat) ∧ ∀ d' : List Form, Tr (fun m => zbv m (d' ++ ys) k (d'.length : Int)) v
  | [], d, k, ih, hl, h0, h1 => ⟨k, [], Tr.step (fun m => by rw [zbt, zf3, cond_false]) Tr.val, Int.le_refl _, by omega, fun d' => Tr.step (fun m => by rw [zbv, zf3, cond_false]) Tr.val⟩
  | .mk kd nm nn sc ks :: xs, d, k, ih, hl, h0, h1 => by
    rw [Form.ws, Form.w] at h1
    rw [List.length_cons] at hl
    obtain ⟨t, ht⟩ := zhv (k := k + 1) (by omega) (by omega)
    obtain ⟨v1, a, b1, b2, b3, b4⟩ := mhInt sc (k + 1 + 1 + 1) (by omega) (by omega)
    obtain ⟨v2, b, c1, c2, c3, c4⟩ := ih _ (List.mem_cons_self ..) v1 (by omega) (by show v1 + (3 * Form.ws ks : Nat) ≤ _; omega)
    have c3' : v2 ≤ v1 + (3 * Form.ws ks : Nat) := c3
    obtain ⟨v, ys, a1, a2, a3, a4⟩ := zhw xs (d ++ [.mk k t (k + 1 + 1) a b]) v2 (fun x hx => ih x (List.mem_cons_of_mem _ hx)) (by simp; omega) (by omega) (by omega)
    have e1 := zgO h0 (by omega)
    have e2 := zgO (k := k + 1) (by omega) (by omega)
    have e3 := zgO (k := k + 1 + 1) (by omega) (by omega)
    refine ⟨v, .mk k t (k + 1 + 1) a b :: ys, ?_, by omega, by rw [Form.ws, Form.w]; omega, fun d' => ?_⟩
    · refine Tr.step (fun m => by rewrite [zbt]; simp only [Form.kind, Form.name, Form.n, Form.scopes, Form.kids, zf2, cond_true, zfs, Option.bind_some, zg9, e1, e2, e3]; rfl) ?_
      refine Tr.bind ht ?_
      refine Tr.bind b1 ?_
      refine Tr.bind c1 ?_
      refine Tr.eq (fun m => ?_) (zdH d (.mk k t (k + 1 + 1) a b) ys ▸ a1)
      rw [← zdH, ← zhu _ _ (by omega)]
    · refine Tr.step (fun m => by rewrite [zbv]; simp only [Form.kind, Form.name, Form.n, Form.scopes, Form.kids, zf2, cond_true, zfs, Option.bind_some, e1, e2, e3]; rfl) ?_
      refine Tr.ff (zbl k) ?_
      refine Tr.bind ht (Tr.ff (zbl t) (Tr.ff (zbl (k + 1 + 1)) ?_))
      refine Tr.bind b4 (Tr.ff (zdG (by omega)) ?_)
      refine Tr.bind c4 (Tr.ff (zdG (by omega)) ?_)
      refine Tr.eq (fun m => ?_) (a4 (d' ++ [.mk k t (k + 1 + 1) a b]))
      rw [← zdH, ← mk_mid_len]
theorem mhForm_n : ∀ (n : Nat) (l : List Form), Form.ws l ≤ n → MH zaC zaI l (3 * Form.ws l) := by
  intro n
  induction n with
  | zero =>
    intro l hl k h0 h1
    have hx := Form.ws_len l
    have : l = [] := List.eq_nil_of_length_eq_zero (by omega)
    subst this
    obtain ⟨v, ys, a1, a2, a3, a4⟩ := zhw [] [] k (fun x hx => by cases hx) (by simp) h0 h1
    exact ⟨v, ys, Tr.step (fun m => by rw [zaC]; rfl) a1, a2, a3, Tr.step (fun m => by rw [zaI]; rfl) (a4 [])⟩
  | succ n ih =>
    intro l hl k h0 h1
    have hx := Form.ws_len l
    obtain ⟨v, ys, a1, a2, a3, a4⟩ := zhw l [] k (fun x hx => ih _ (by
      have := Form.ws_mem hx
      obtain ⟨p1, p2, p3, p4, p5⟩ := x
      rw [Form.w] at this
      show Form.ws p5 ≤ n
      omega)) (by simp only [List.length_nil]; omega) h0 h1
    exact ⟨v, ys, Tr.step (fun m => by rw [zaC]; rfl) a1, a2, a3, Tr.step (fun m => by rw [zaI]; rfl) (a4 [])⟩
theorem mhForms (l : List Form) : MH zaC zaI l (3 * Form.ws l) := mhForm_n _ l (Nat.le_refl _)
def Rule.mws : List Rule → Nat
  | [] => 0
  | r :: rs => 1 + r.pattern.w + r.template.w + Rule.mws rs
theorem Rule.mws_len : ∀ l : List Rule, l.length ≤ Rule.mws l
  | [] => Nat.le_refl _
  | r :: rs => by have := Rule.mws_len rs; rw [Rule.mws, List.length_cons]; omega
theorem markRule_loop : ∀ (xs d : List Rule) (k : Int), d.length + xs.length ≤ 4611686018427387904 → 0 ≤ k → k + (3 * Rule.mws xs : Nat) ≤ 4611686018427387904 →
    ∃ v ys, Tr (fun m => zbs m k (d.length : Int) (d ++ xs)) (v, d ++ ys) ∧ k ≤ v ∧ v ≤ k + (3 * Rule.mws xs : Nat) ∧ ∀ d' : List Rule, Tr (fun m => zbu m (d' ++ ys) k (d'.length : Int)) v
  | [], d, k, hl, h0, h1 => ⟨k, [], Tr.step (fun m => by rw [zbs, zf3, cond_false]) Tr.val, Int.le_refl _, by omega, fun d' => Tr.step (fun m => by rw [zbu, zf3, cond_false]) Tr.val⟩
  | .mk (.mk kd nm nn sc ks) (.mk kd' nm' nn' sc' ks') :: xs, d, k, hl, h0, h1 => by
    rw [Rule.mws, Rule.pattern, Rule.template, Form.w, Form.w] at h1
    rw [List.length_cons] at hl
    obtain ⟨t, ht⟩ := zhv (k := k + 1) (by omega) (by omega)
    obtain ⟨v1, a, b1, b2, b3, b4⟩ := mhInt sc (k + 1 + 1 + 1) (by omega) (by omega)
    obtain ⟨v2, b, c1, c2, c3, c4⟩ := mhForms ks v1 (by omega) (by omega)
    obtain ⟨t', ht'⟩ := zhv (k := v2 + 1) (by omega) (by omega)
    obtain ⟨v3, a', d1, d2, d3, d4⟩ := mhInt sc' (v2 + 1 + 1 + 1) (by omega) (by omega)
    obtain ⟨v5, b', e1, e2, e3, e4⟩ := mhForms ks' v3 (by omega) (by omega)
    obtain ⟨v, ys, a1, a2, a3, a4⟩ := markRule_loop xs (d ++ [.mk (.mk k t (k + 1 + 1) a b) (.mk v2 t' (v2 + 1 + 1) a' b')]) v5 (by simp; omega) (by omega) (by omega)
    have w1 := zgO h0 (by omega)
    have w2 := zgO (k := k + 1) (by omega) (by omega)
    have w3 := zgO (k := k + 1 + 1) (by omega) (by omega)
    have w4 := zgO (k := v2) (by omega) (by omega)
    have w5 := zgO (k := v2 + 1) (by omega) (by omega)
    have w6 := zgO (k := v2 + 1 + 1) (by omega) (by omega)
    refine ⟨v, .mk (.mk k t (k + 1 + 1) a b) (.mk v2 t' (v2 + 1 + 1) a' b') :: ys, ?_, by omega, by rw [Rule.mws, Rule.pattern, Rule.template, Form.w, Form.w]; omega, fun d' => ?_⟩
    · refine Tr.step (fun m => by rewrite [zbs]; simp only [Form.kind, Form.name, Form.n, Form.scopes, Form.kids, Rule.pattern, Rule.template, zf2, cond_true, zfs, Option.bind_some, zg9, w1, w2, w3]; rfl) ?_
      refine Tr.bind ht (Tr.bind b1 (Tr.bind c1 ?_))
      refine Tr.eq (fun m => by simp only [w4, w5, w6]; rfl) (Tr.bind ht' ?_)
      refine Tr.bind d1 (Tr.bind e1 ?_)
      refine Tr.eq (fun m => ?_) (zdH d (.mk (.mk k t (k + 1 + 1) a b) (.mk v2 t' (v2 + 1 + 1) a' b')) ys ▸ a1)
      rw [← zdH, ← zhu _ _ (by omega)]
    · refine Tr.step (fun m => by rewrite [zbu]; simp only [Form.kind, Form.name, Form.n, Form.scopes, Form.kids, Rule.pattern, Rule.template, zf2, cond_true, zfs, Option.bind_some, w1, w2, w3]; rfl) ?_
      refine Tr.ff (zbl k) ?_
      refine Tr.bind ht (Tr.ff (zbl t) (Tr.ff (zbl (k + 1 + 1)) ?_))
      refine Tr.bind b4 (Tr.ff (zdG (by omega)) ?_)
      refine Tr.bind c4 (Tr.ff (zdG (by omega)) ?_)
      refine Tr.eq (fun m => by simp only [w4, w5, w6]; rfl) ?_
      refine Tr.ff (zbl v2) ?_
      refine Tr.bind ht' (Tr.ff (zbl t') (Tr.ff (zbl (v2 + 1 + 1)) ?_))
      refine Tr.bind d4 (Tr.ff (zdG (by omega)) ?_)
      refine Tr.bind e4 (Tr.ff (zdG (by omega)) ?_)
      refine Tr.eq (fun m => ?_) (a4 (d' ++ [.mk (.mk k t (k + 1 + 1) a b) (.mk v2 t' (v2 + 1 + 1) a' b')]))
      rw [← zdH, ← mk_mid_len]
theorem mhRules (l : List Rule) : MH zda zed l (3 * Rule.mws l) := fun k h0 h1 => by
  have hx := Rule.mws_len l
  obtain ⟨v, ys, a1, a2, a3, a4⟩ := markRule_loop l [] k (by simp only [List.length_nil]; omega) h0 h1
  exact ⟨v, ys, Tr.eq (fun m => by unfold zda; rfl) a1, a2, a3, Tr.eq (fun m => by unfold zed; rfl) (a4 [])⟩
end Go.Abs
end
section
set_option linter.unusedVariables false
set_option linter.unusedSimpArgs false
namespace Go.Abs
theorem Rule.mws_wt : ∀ l : List Rule, Rule.mws l ≤ 3 * l.length + 2 * sumW Rule.wt l
  | [] => Nat.zero_le _
  | r :: rs => by
    have h := Rule.mws_wt rs
    have a := r.pattern.w_wt
    have b := r.template.w_wt
    have e : r.wt = r.pattern.wt + r.template.wt := rfl
    rw [Rule.mws, List.length_cons, sumW]; omega
end Go.Abs
end
section
set_option linter.unusedVariables false
set_option linter.unusedSimpArgs false
namespace Go.Abs
abbrev macro0 : zq := zq.mk 0 ([] : List Form) ([] : List Rule)
noncomputable def findM (x : zv) (n : Int) : zq × Bool := bif exOk x && decide (0 ≤ macAt x.macros n) then (x.macros.getD (macAt x.macros n).toNat macro0, true) else (macro0, false)
theorem macAt_cases (l : List zq) (n : Int) : macAt l n = -1 ∨ ∃ i x, macAt l n = ((i : Nat) : Int) ∧ l[i]? = some x ∧ x.id = n := by
  rcases fnd_at (D := fun x : zq => decide (x.id = n)) (l := l) (k := 0) with ⟨h1, _⟩ | ⟨i, x, h1, h2, h3, _⟩
  · exact .inl h1
  · rw [Nat.zero_add] at h1
    exact .inr ⟨i, x, h1, h2, of_decide_eq_true h3⟩
theorem copyMacro_tr (x : zq) (h1 : Form.ws x.literals ≤ 2 ^ 36) (h2 : x.rules.length ≤ 2 ^ 30) (h : ∀ r ∈ x.rules, r.pattern.w ≤ 2 ^ 36 ∧ r.template.w ≤ 2 ^ 36) : Tr (fun m => zcF m x) x := by
  have hll := Form.ws_len x.literals
  have k2 : Tr (fun m => zan m x x.literals 0 ([] : List Rule)) x := by
    have key := zae x.rules (fun k zs => (∀ z ∈ zs, z ∈ x.rules) → ∀ g : List Rule, g ++ zs = x.rules → g.length = k → Tr (fun m => zan m x x.literals (k : Int) g) x) ?_ ?_ 0 (Nat.zero_le _) (fun z hz => by simpa using hz) [] (by rw [List.drop_zero, List.nil_append]) rfl
    · exact key
    · intro _ g hg _
      rw [List.append_nil] at hg; subst hg
      refine Tr.step (fun m => by rw [zan, zac, cond_false]) ?_
      obtain ⟨a, b, c⟩ := x; exact Tr.val
    · intro k z zs hk hx hd ih hall g hg hgl
      have hz := h z (hall z (by simp))
      refine Tr.step (fun m => by rw [zan, ltN hk, cond_true, zP hx, Option.bind_some, zcJ]) ?_
      refine Tr.bind (copyForm_tr z.pattern hz.1) (Tr.bind (copyForm_tr z.template hz.2) ?_)
      have e : Rule.mk z.pattern z.template = z := by obtain ⟨a, b⟩ := z; rfl
      rw [e]
      exact Tr.chk (decide_eq_true (by simp; omega)) (ih (fun y hy => hall y (by simp [hy])) (g ++ [z]) (by rw [List.append_assoc]; exact hg) (by simp [hgl]))
  refine Tr.eq (fun m => by unfold zcF; rfl) ?_
  have key := zae x.literals (fun k zs => (∀ z ∈ zs, z ∈ x.literals) → ∀ g : List Form, g ++ zs = x.literals → g.length = k → Tr (fun m => zat m x (k : Int) g) x) ?_ ?_ 0 (Nat.zero_le _) (fun z hz => by simpa using hz) [] (by rw [List.drop_zero, List.nil_append]) rfl
  · exact key
  · intro _ g hg _
    rw [List.append_nil] at hg; subst hg
    exact Tr.step (fun m => by rw [zat, zac, cond_false]) (Tr.step (fun m => by rw [zbw]) k2)
  · intro k z zs hk hx hd ih hall g hg hgl
    have hz := Form.ws_mem (hall z (by simp))
    refine Tr.step (fun m => by rw [zat, ltN hk, cond_true, zP hx, Option.bind_some, zcJ]) ?_
    refine Tr.bind (copyForm_tr z (by omega)) ?_
    exact Tr.chk (decide_eq_true (by simp; omega)) (ih (fun y hy => hall y (by simp [hy])) (g ++ [z]) (by rw [List.append_assoc]; exact hg) (by simp [hgl]))
theorem implFindMacro_tr (x : zv) (n : Int) (hx : x.fit) (hw : x.light) : Tr (fun m => zcg m x n) (findM x n) := by
  refine Tr.eq (fun m => by unfold zcg; rfl) (Tr.bind (macroAt_tr x.macros n) (Tr.bind (implExp_tr x hx hw) ?_))
  have no : Tr (fun m => zau m x (macAt x.macros n) true) (macro0, false) := Tr.step (fun m => by rw [zau, cond_true]) Tr.val
  unfold findM
  cases exOk x with
  | false => exact Tr.tt rfl no
  | true =>
  refine Tr.ff rfl ?_
  rcases macAt_cases x.macros n with h | ⟨i, y, h, hy, hyi⟩
  · rw [h]; rw [h] at no; exact no
  · rw [h, decide_eq_false (by omega), decide_eq_true (show (0 : Int) ≤ ((i : Nat) : Int) by omega), Bool.and_self, cond_true, Int.toNat_natCast, List.getD_eq_getElem?_getD, hy, Option.getD_some]
    have hm := hw.ms y (List.mem_of_getElem? hy)
    exact Tr.step (fun m => by rw [zau, cond_false, zP hy, Option.bind_some]) (Tr.bind (copyMacro_tr y hm.1 hm.2.1 hm.2.2) Tr.val)
theorem specFindMacro_tr (x : zv) (n : Int) (hx : x.fit) (hw : x.light) : Tr (fun m => zd6 m x n) (findM x n) := by
  refine Tr.eq (fun m => by unfold zd6; rfl) (Tr.bind (l7Macro_tr x n) (Tr.bind (specExp_tr x hx hw) ?_))
  have no : Tr (fun m => zbq m x n (macAt x.macros n) true) (macro0, false) := Tr.step (fun m => by rw [zbq, cond_true]) Tr.val
  unfold findM
  cases exOk x with
  | false => exact Tr.tt rfl no
  | true =>
  refine Tr.ff rfl ?_
  rcases macAt_cases x.macros n with h | ⟨i, y, h, hy, hyi⟩
  · rw [h]; rw [h] at no; exact no
  · rw [h, decide_eq_false (by omega), decide_eq_true (show (0 : Int) ≤ ((i : Nat) : Int) by omega), Bool.and_self, cond_true, Int.toNat_natCast, List.getD_eq_getElem?_getD, hy, Option.getD_some]
    obtain ⟨h1, h2, h3⟩ := hw.ms y (List.mem_of_getElem? hy)
    have hll := Form.ws_len y.literals
    have k2 : Tr (fun m => zaX m x n ((i : Nat) : Int) y.literals 0 ([] : List Rule)) (y, true) := by
      have key := zae y.rules (fun k zs => (∀ z ∈ zs, z ∈ y.rules) → ∀ g : List Rule, g ++ zs = y.rules → g.length = k → Tr (fun m => zaX m x n ((i : Nat) : Int) y.literals (k : Int) g) (y, true)) ?_ ?_ 0 (Nat.zero_le _) (fun z hz => by simpa using hz) [] (by rw [List.drop_zero, List.nil_append]) rfl
      · exact key
      · intro _ g hg _
        rw [List.append_nil] at hg; subst hg
        refine Tr.step (fun m => by rw [zaX, zP hy, Option.bind_some, zac, cond_false]) ?_
        obtain ⟨a, b, c⟩ := y
        have : a = n := hyi
        subst this
        exact Tr.val
      · intro k z zs hk hxk hd ih hall g hg hgl
        have hz := h3 z (hall z (by simp))
        refine Tr.step (fun m => by rw [zaX, zP hy, Option.bind_some, ltN hk, cond_true, Option.bind_some, zP hxk, Option.bind_some, zcJ]) ?_
        refine Tr.bind (l1Copy_tr _ z.pattern (Nat.le_refl _) hz.1) (Tr.bind (l1Copy_tr _ z.template (Nat.le_refl _) hz.2) ?_)
        have e : Rule.mk z.pattern z.template = z := by obtain ⟨a, b⟩ := z; rfl
        rw [e]
        exact Tr.chk (decide_eq_true (by simp; omega)) (ih (fun y hy => hall y (by simp [hy])) (g ++ [z]) (by rw [List.append_assoc]; exact hg) (by simp [hgl]))
    refine Tr.step (fun m => by rw [zbq, cond_false]) ?_
    have key := zae y.literals (fun k zs => (∀ z ∈ zs, z ∈ y.literals) → ∀ g : List Form, g ++ zs = y.literals → g.length = k → Tr (fun m => zbp m x n ((i : Nat) : Int) (k : Int) g) (y, true)) ?_ ?_ 0 (Nat.zero_le _) (fun z hz => by simpa using hz) [] (by rw [List.drop_zero, List.nil_append]) rfl
    · exact key
    · intro _ g hg _
      rw [List.append_nil] at hg; subst hg
      exact Tr.step (fun m => by rw [zbp, zP hy, Option.bind_some, zac, cond_false]) (Tr.step (fun m => by rw [zcZ]) k2)
    · intro k z zs hk hxk hd ih hall g hg hgl
      have hz := Form.ws_mem (hall z (by simp))
      refine Tr.step (fun m => by rw [zbp, zP hy, Option.bind_some, ltN hk, cond_true, Option.bind_some, zP hxk, Option.bind_some, zcJ]) ?_
      refine Tr.bind (l1Copy_tr _ z (Nat.le_refl _) (by omega)) ?_
      exact Tr.chk (decide_eq_true (by simp; omega)) (ih (fun y hy => hall y (by simp [hy])) (g ++ [z]) (by rw [List.append_assoc]; exact hg) (by simp [hgl]))
def Bind.mws : List Bind → Nat
  | [] => 0
  | b :: bs => 2 + b.scopes.length + Bind.mws bs
theorem Bind.mws_len : ∀ l : List Bind, l.length ≤ Bind.mws l
  | [] => Nat.le_refl _
  | b :: bs => by have := Bind.mws_len bs; rw [Bind.mws, List.length_cons]; omega
theorem Bind.mws_wt : ∀ l : List Bind, Bind.mws l ≤ 2 * l.length + sumW Bind.wt l
  | [] => Nat.zero_le _
  | b :: bs => by
    have := Bind.mws_wt bs
    have e : b.wt = b.name.size + b.scopes.length := rfl
    rw [Bind.mws, List.length_cons, sumW]; omega
theorem markBind_loop : ∀ (xs d : List Bind) (k : Int), d.length + xs.length ≤ 4611686018427387904 → 0 ≤ k → k + (Bind.mws xs : Nat) ≤ 4611686018427387904 →
    ∃ v ys, Tr (fun m => zaZ m k (d.length : Int) (d ++ xs)) (v, ys) ∧ k ≤ v ∧ v ≤ k + (Bind.mws xs : Nat)
  | [], d, k, hl, h0, h1 => ⟨k, _, Tr.step (fun m => by rw [zaZ, zf3, cond_false]) Tr.val, Int.le_refl _, by omega⟩
  | .mk nm sc id :: xs, d, k, hl, h0, h1 => by
    have h1' : k + ((2 + sc.length + Bind.mws xs : Nat) : Int) ≤ 4611686018427387904 := h1
    rw [List.length_cons] at hl
    obtain ⟨t, ht⟩ := zhv (k := k) (by omega) (by omega)
    obtain ⟨v1, a, b1, b2, b3, b4⟩ := mhInt sc (k + 1) (by omega) (by omega)
    obtain ⟨v, ys, a1, a2, a3⟩ := markBind_loop xs (d ++ [.mk t a v1]) (v1 + 1) (by simp; omega) (by omega) (by omega)
    have w1 := zgO h0 (by omega)
    have w2 := zgO (k := v1) (by omega) (by omega)
    refine ⟨v, ys, ?_, by omega, by show v ≤ k + ((2 + sc.length + Bind.mws xs : Nat) : Int); omega⟩
    refine Tr.step (fun m => by rewrite [zaZ]; simp only [Bind.name, Bind.scopes, Bind.id, zf2, cond_true, zfs, Option.bind_some, zg9, w1]; rfl) ?_
    refine Tr.bind ht (Tr.bind b1 ?_)
    refine Tr.eq (fun m => ?_) a1
    rw [← zdH, ← zhu _ _ (by omega)]
    show zaZ m (w64 (v1 + 1)) _ _ = _
    rw [w2]
theorem mhBinds (l : List Bind) (k : Int) (h0 : 0 ≤ k) (h1 : k + (Bind.mws l : Nat) ≤ 4611686018427387904) : ∃ v ys, Tr (fun m => zec m l k) (v, ys) ∧ k ≤ v ∧ v ≤ k + (Bind.mws l : Nat) := by
  have hx := Bind.mws_len l
  obtain ⟨v, ys, a1, a2, a3⟩ := markBind_loop l [] k (by simp only [List.length_nil]; omega) h0 h1
  exact ⟨v, ys, Tr.eq (fun m => by unfold zec; rfl) a1, a2, a3⟩
def zq.mw (m : zq) : Nat := 1 + 3 * Form.ws m.literals + 3 * Rule.mws m.rules
def zq.mws : List zq → Nat
  | [] => 0
  | m :: ms => m.mw + zq.mws ms
theorem zq.mws_len : ∀ l : List zq, l.length ≤ zq.mws l
  | [] => Nat.le_refl _
  | b :: bs => by have := zq.mws_len bs; rw [zq.mws, zq.mw, List.length_cons]; omega
theorem zq.mw_wt (m : zq) : m.mw ≤ 1 + 9 * m.wt := by
  have h1 := Form.ws_wts m.literals
  have h2 := Rule.mws_wt m.rules
  have e : m.wt = Form.wts m.literals + (m.rules.length + sumW Rule.wt m.rules) := rfl
  rw [zq.mw]; omega
theorem zq.mws_wt : ∀ l : List zq, zq.mws l ≤ l.length + 9 * sumW zq.wt l
  | [] => Nat.zero_le _
  | b :: bs => by
    have := zq.mws_wt bs
    have := b.mw_wt
    rw [zq.mws, List.length_cons, sumW]; omega
theorem markMacro_loop : ∀ (xs d : List zq) (k : Int), d.length + xs.length ≤ 4611686018427387904 → 0 ≤ k → k + (zq.mws xs : Nat) ≤ 4611686018427387904 →
    ∃ v ys, Tr (fun m => za9 m k (d.length : Int) (d ++ xs)) (v, ys) ∧ k ≤ v ∧ v ≤ k + (zq.mws xs : Nat)
  | [], d, k, hl, h0, h1 => ⟨k, _, Tr.step (fun m => by rw [za9, zf3, cond_false]) Tr.val, Int.le_refl _, by omega⟩
  | .mk id ls rs :: xs, d, k, hl, h0, h1 => by
    have h1' : k + ((1 + 3 * Form.ws ls + 3 * Rule.mws rs + zq.mws xs : Nat) : Int) ≤ 4611686018427387904 := h1
    rw [List.length_cons] at hl
    obtain ⟨v1, a, b1, b2, b3, b4⟩ := mhForms ls (k + 1) (by omega) (by omega)
    obtain ⟨v2, b, c1, c2, c3, c4⟩ := mhRules rs v1 (by omega) (by omega)
    obtain ⟨v, ys, a1, a2, a3⟩ := markMacro_loop xs (d ++ [.mk k a b]) v2 (by simp; omega) (by omega) (by omega)
    have w1 := zgO h0 (by omega)
    refine ⟨v, ys, ?_, by omega, by show v ≤ k + ((1 + 3 * Form.ws ls + 3 * Rule.mws rs + zq.mws xs : Nat) : Int); omega⟩
    refine Tr.step (fun m => by rewrite [za9]; simp only [zq.id, zq.literals, zq.rules, zf2, cond_true, zfs, Option.bind_some, zg9, w1]; rfl) ?_
    refine Tr.bind b1 (Tr.bind c1 ?_)
    refine Tr.eq (fun m => ?_) a1
    rw [← zdH, ← zhu _ _ (by omega)]
theorem mhExp (x : zv) (h1 : 1 + ((Bind.mws x.binds + zq.mws x.macros : Nat) : Int) ≤ 4611686018427387904) : ∃ v a b, Tr (fun m => zcK m x 1) (v, a, b) ∧ 1 ≤ v := by
  have hx := zq.mws_len x.macros
  obtain ⟨v1, a, a1, a2, a3⟩ := mhBinds x.binds 1 (by omega) (by omega)
  obtain ⟨v, b, b1, b2, b3⟩ := markMacro_loop x.macros [] v1 (by simp only [List.length_nil]; omega) (by omega) (by omega)
  have b1' : Tr (fun m => zdN m x.macros v1) (v, b) := Tr.eq (fun m => by unfold zdN; rfl) b1
  exact ⟨v, a, b, Tr.eq (fun m => by unfold zcK; rfl) (Tr.bind a1 (Tr.bind b1' Tr.val)), by omega⟩
theorem mhMacro (f : zq) (h1 : 1 + (f.mw : Int) ≤ 4611686018427387904) : ∃ v a b, Tr (fun m => zeb m f 1) (v, a, b) ∧ 1 ≤ v ∧ ∀ id, Tr (fun m => zdb m (.mk id a b) 1) v := by
  rw [zq.mw] at h1
  obtain ⟨v1, a, b1, b2, b3, b4⟩ := mhForms f.literals 1 (by omega) (by omega)
  obtain ⟨v2, b, c1, c2, c3, c4⟩ := mhRules f.rules v1 (by omega) (by omega)
  refine ⟨v2, a, b, ?_, by omega, fun id => ?_⟩
  · exact Tr.eq (fun m => by unfold zeb; rfl) (Tr.bind b1 (Tr.bind c1 Tr.val))
  · refine Tr.eq (fun m => by unfold zdb; rfl) ?_
    exact Tr.bind b4 (Tr.ff (zdG (by omega)) (Tr.bind c4 (Tr.ff (zdG (by omega)) Tr.val)))
theorem findM_mw (x : zv) (n : Int) : (findM x n).1.mw ≤ 1 + zq.mws x.macros := by
  unfold findM
  cases exOk x with
  | false => exact Nat.le_add_right 1 _
  | true =>
  rcases macAt_cases x.macros n with h | ⟨i, y, h, hy, _⟩
  · rw [h]; exact Nat.le_add_right 1 _
  · rw [h, decide_eq_true (show (0 : Int) ≤ ((i : Nat) : Int) by omega), Bool.and_self, cond_true, Int.toNat_natCast, List.getD_eq_getElem?_getD, hy, Option.getD_some]
    have : ∀ l : List zq, y ∈ l → y.mw ≤ zq.mws l := by
      intro l
      induction l with
      | nil => intro h; cases h
      | cons z l ih =>
        intro h
        rw [zq.mws]
        rcases List.mem_cons.1 h with rfl | h
        · omega
        · have := ih h; omega
    have := this _ (List.mem_of_getElem? hy)
    show y.mw ≤ _; omega
theorem FnExactFindMacro_law (x : zv) (n : Int) (hx : x.fit) (hn : -9223372036854775808 ≤ n ∧ n ≤ 9223372036854775807) : TQ (fun m => zcO m x n) (fun b => b = true) := by
  refine TQ.eq (fun m => by unfold zcO; rfl) (TQ.bind (szExpansion_tq x 1048576 hx (by omega) (by omega)) (fun v hv => ?_))
  rcases hv with rfl | ⟨h0, rfl⟩
  · exact TQ.cond (fun _ => TQ.val rfl) (fun h => absurd h (by decide))
  refine TQ.cond (fun h => absurd h (by rw [geZ h0]; decide)) (fun _ => ?_)
  have hw : x.light := zv.light_of (by omega)
  have hr := findM_mw x n
  have hmb := Bind.mws_wt x.binds
  have hmm := zq.mws_wt x.macros
  have e : x.wt = (x.binds.length + sumW Bind.wt x.binds) + (x.macros.length + sumW zq.wt x.macros) := rfl
  have tx := toExpansion_tr x hw
  have ti := implFindMacro_tr x n hx hw
  have es := eqMacro_self (findM x n).1
  refine ⟨true, ?_, rfl⟩
  obtain ⟨v1, q1, q2, m1, m2⟩ := mhExp x (by omega)
  obtain ⟨v, p1, p2, a1, a2, a4⟩ := mhMacro (findM x n).1 (by omega)
  refine Tr.bind tx (Tr.bind (specFindMacro_tr x n hx hw) (Tr.bind tx (Tr.bind ti (Tr.bind es (Tr.ff rfl ?_)))))
  refine Tr.eq (fun m => by rw [zbl]) ?_
  refine Tr.step (fun m => by rw [zaW]) ?_
  refine Tr.ff rfl ?_
  refine Tr.bind tx (Tr.bind (eqExpansion_self x) (Tr.ff rfl (Tr.bind m1 (Tr.ff (zdG (by show 0 ≤ v1; omega)) (Tr.bind es (Tr.ff rfl ?_))))))
  refine Tr.eq (fun m => by rw [zbl]) ?_
  refine Tr.step (fun m => by rw [zaz]) ?_
  refine Tr.ff rfl ?_
  refine Tr.bind a1 (Tr.bind (a4 _) (Tr.ff (zdG (by omega)) (Tr.ff (zbl v) ?_)))
  refine Tr.bind tx (Tr.bind ti (Tr.bind es (Tr.ff rfl ?_)))
  refine Tr.eq (fun m => by rw [zbl]) ?_
  refine Tr.step (fun m => by rw [zaV]) ?_
  refine Tr.ff rfl ?_
  exact Tr.bind (a4 _) (Tr.ff (zdG (by omega)) (Tr.ff (zbl v) Tr.val))
end Go.Abs
end
