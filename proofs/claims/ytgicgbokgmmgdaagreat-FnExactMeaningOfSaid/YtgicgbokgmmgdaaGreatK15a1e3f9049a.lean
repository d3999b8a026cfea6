/- A part of the proof: what the functions that the law calls answer, as pure values. -/
import Derived.Test.YtgicgbokgmmgdaaGreatK362eb3399492
import Derived.Test.YtgicgbokgmmgdaaGreatK64ea14ca7074
import Derived.Test.YtgicgbokgmmgdaaGreatK70fc6f7d8760
import Derived.Test.YtgicgbokgmmgdaaGreatKb2fda210d385
set_option linter.unusedSimpArgs false
set_option linter.unusedVariables false
section
set_option linter.unusedVariables false
set_option linter.unusedSimpArgs false
namespace Go.Abs
def anys {α : Type} (D : α → Bool) : List α → Bool
  | [] => false
  | x :: xs => D x || anys D xs
theorem anys_iff {α : Type} {D : α → Bool} : ∀ {l : List α}, anys D l = true ↔ ∃ x ∈ l, D x = true
  | [] => by simp [anys]
  | x :: xs => by rw [anys, Bool.or_eq_true, anys_iff]; simp
theorem loop_any {α : Type} {xs : List α} {D : α → Bool} {L : Nat → Int → Option Bool} {E : Nat → α → Option Bool}
    (h0 : ∀ m k, L (m + 1) k = bif decide (k < (xs.length : Int)) then (idx xs k).bind fun a => (E m a).bind fun v => bif v then some true else L m (k + 1) else some false)
    (hE : ∀ a ∈ xs, Tr (fun m => E m a) (D a)) : Tr (fun m => L m 0) (anys D xs) := by
  have key := drop_ind xs (fun k zs => Tr (fun m => L m (k : Int)) (anys D zs)) ?_ ?_ 0 (Nat.zero_le _)
  · simpa using key
  · exact Tr.step (fun m => by rw [h0, ltN_self, cond_false]; rfl) Tr.val
  · intro k x zs hk hx hd ih
    refine Tr.step (fun m => by rw [h0, ltN hk, cond_true, idx_nat hx, Option.bind_some, succN]) ?_
    refine Tr.bind (hE x (List.mem_of_getElem? hx)) ?_
    rw [anys]
    cases h : D x with
    | true => exact Tr.tt rfl Tr.val
    | false => exact Tr.ff rfl (by simpa using ih)
def hasB (l : List Int) (n : Int) : Bool := anys (fun x => decide (x = n)) l
theorem l2Has_tr (l : List Int) (n : Int) : Tr (fun m => m_spec_l2Has m l n) (hasB l n) := by
  refine Tr.eq (fun m => by unfold m_spec_l2Has; rfl) ?_
  exact loop_any (xs := l) (L := fun m k => m_spec_l2Has_l1 m l n k) (E := fun m a => some (decide (a = n))) (fun m k => by rw [m_spec_l2Has_l1]; rfl) (fun a _ => Tr.val)
def withinB (a b : List Int) : Bool := alls (fun x => hasB b x) a
theorem specWithin_tr (a b : List Int) : Tr (fun m => m_spec_ScopesWithin m a b) (withinB a b) := by
  refine Tr.eq (fun m => by unfold m_spec_ScopesWithin; rfl) ?_
  have := loop_all (xs := a) (c := true) (D := fun x => hasB b x) (L := fun m k => m_spec_ScopesWithin_l1 m a b k) (E := fun m x => m_spec_l2Has m b x) (fun m k => by rw [m_spec_ScopesWithin_l1]) (fun x _ => l2Has_tr b x)
  rwa [Bool.and_true] at this
def bind0 : Bind := Bind.mk (⟨#[]⟩ : ByteArray) [] 0
def bAt (l : List Bind) (i : Int) : Bind := l.getD i.toNat bind0
theorem bAt_idx {l : List Bind} {i : Int} (h0 : 0 ≤ i) (h1 : i < l.length) : idx l i = some (bAt l i) := by
  obtain ⟨k, rfl⟩ := Int.eq_ofNat_of_zero_le h0
  have hk : k < l.length := by omega
  rw [idx_nat (List.getElem?_eq_getElem hk)]
  unfold bAt
  rw [Int.toNat_natCast, List.getD_eq_getElem?_getD, List.getElem?_eq_getElem hk]; rfl
def fitB (f : Form) (b : Bind) : Bool := decide (b.name = f.name) && withinB b.scopes f.scopes
def fitsF (f : Form) : List Bind → Nat → List Int
  | [], _ => []
  | b :: bs, k => (bif fitB f b then [(k : Int)] else []) ++ fitsF f bs (k + 1)
def fitsB (l : List Bind) (f : Form) : List Int := fitsF f l 0
theorem fitsF_mem {f : Form} : ∀ {l : List Bind} {k : Nat} {i : Int}, i ∈ fitsF f l k → ∃ j b, i = ((k + j : Nat) : Int) ∧ l[j]? = some b ∧ fitB f b = true
  | b :: bs, k, i, h => by
    rw [fitsF] at h
    rcases List.mem_append.1 h with h | h
    · cases hb : fitB f b with
      | true => rw [hb, cond_true, List.mem_singleton] at h; exact ⟨0, b, by simpa using h, rfl, hb⟩
      | false => rw [hb, cond_false] at h; cases h
    · obtain ⟨j, c, h1, h2, h3⟩ := fitsF_mem h
      exact ⟨j + 1, c, by rw [h1]; congr 1; omega, by simpa using h2, h3⟩
theorem fitsB_mem {l : List Bind} {f : Form} {i : Int} (h : i ∈ fitsB l f) : 0 ≤ i ∧ i < l.length := by
  obtain ⟨j, b, h1, h2, _⟩ := fitsF_mem h
  have := (List.getElem?_eq_some_iff.1 h2).1
  omega
theorem l3Fitting_tr (l : List Bind) (f : Form) (hb : l.length ≤ 2 ^ 36) : Tr (fun m => m_spec_l3Fitting m l f) (fitsB l f) := by
  refine Tr.eq (fun m => by unfold m_spec_l3Fitting; rfl) ?_
  have key := drop_ind l (fun k zs => ∀ g : List Int, g.length ≤ k → Tr (fun m => m_spec_l3Fitting_l1 m l f g (k : Int)) (g ++ fitsF f zs k)) ?_ ?_ 0 (Nat.zero_le _) [] (by simp)
  · exact key
  · intro g _
    refine Tr.step (fun m => by rw [m_spec_l3Fitting_l1, ltN_self, cond_false]) ?_
    rw [fitsF, List.append_nil]; exact Tr.val
  · intro k x zs hk hx hd ih g hg
    refine Tr.step (fun m => by rw [m_spec_l3Fitting_l1, ltN hk, cond_true, idx_nat hx, Option.bind_some, Option.bind_some]) ?_
    rw [fitsF]
    have j2 : ∀ b : Bool, fitB f x = b → Tr (fun m => m_spec_l3Fitting_j2 m l f g (k : Int) b) (g ++ ((bif fitB f x then [(k : Int)] else []) ++ fitsF f zs (k + 1))) := by
      intro b hb
      rw [hb]
      refine Tr.step (fun m => by rw [m_spec_l3Fitting_j2]) ?_
      cases b with
      | true =>
        refine Tr.tt rfl (Tr.chk (decide_eq_true (by simp; omega)) ?_)
        have := ih (g ++ [(k : Int)]) (by simp; omega)
        rw [List.append_assoc] at this
        exact this
      | false => exact Tr.ff rfl (by simpa using ih g (by omega))
    unfold fitB at j2
    by_cases hn : x.name = f.name
    · refine Tr.tt (decide_eq_true hn) (Tr.bind (specWithin_tr _ _) (j2 _ ?_))
      rw [decide_eq_true hn, Bool.true_and]
    · refine Tr.ff (decide_eq_false hn) (j2 false ?_)
      rw [decide_eq_false hn, Bool.false_and]
def bestB (l : List Bind) (fits : List Int) (i : Int) : Bool := alls (fun j => withinB (bAt l j).scopes (bAt l i).scopes) fits
def firstB (l : List Bind) (fits : List Int) : List Int → Option Int
  | [] => none
  | i :: is => bif bestB l fits i then some i else firstB l fits is
def refB (l : List Bind) (f : Form) : Int × Int :=
  match firstB l (fitsB l f) (fitsB l f) with
  | some i => (i, 1)
  | none => (0, bif decide (0 < ((fitsB l f).length : Int)) then 2 else 0)
theorem l3Find_tr (l : List Bind) (f : Form) (hb : l.length ≤ 2 ^ 36) : Tr (fun m => m_spec_l3Find m l f) (refB l f) := by
  refine Tr.eq (fun m => by unfold m_spec_l3Find; rfl) (Tr.bind (l3Fitting_tr l f hb) ?_)
  unfold refB
  have hm : ∀ i ∈ fitsB l f, 0 ≤ i ∧ i < (l.length : Int) := fun i hi => fitsB_mem hi
  generalize fitsB l f = fs at hm
  have key := drop_ind fs (fun k zs => (∀ z ∈ zs, z ∈ fs) → Tr (fun m => m_spec_l3Find_l1 m l fs (k : Int)) (match firstB l fs zs with
    | some i => (i, 1)
    | none => (0, bif decide (0 < (fs.length : Int)) then 2 else 0))) ?_ ?_ 0 (Nat.zero_le _) (fun z hz => by simpa using hz)
  · exact key
  · intro _
    refine Tr.step (fun m => by rw [m_spec_l3Find_l1, ltN_self, cond_false]) ?_
    rw [firstB]
    cases decide (0 < (fs.length : Int)) with
    | true => exact Tr.tt rfl Tr.val
    | false => exact Tr.ff rfl Tr.val
  · intro k x zs hk hx hd ih hz
    have hx1 := hm x (hz x (by simp))
    refine Tr.step (fun m => by rw [m_spec_l3Find_l1, ltN hk, cond_true]) ?_
    rw [firstB]
    have j2 : ∀ b : Bool, bestB l fs x = b → Tr (fun m => m_spec_l3Find_j2 m l fs (k : Int) b) (match (bif bestB l fs x then some x else firstB l fs zs) with
        | some i => (i, 1)
        | none => (0, bif decide (0 < (fs.length : Int)) then 2 else 0)) := by
      intro b hb
      rw [hb]
      refine Tr.step (fun m => by rw [m_spec_l3Find_j2, idx_nat hx, Option.bind_some, succN]) ?_
      cases b with
      | true => exact Tr.tt rfl Tr.val
      | false => exact Tr.ff rfl (ih (fun z hzz => hz z (by simp [hzz])))
    have inner := drop_ind fs (fun j ys => ∀ b : Bool, (b && alls (fun j => withinB (bAt l j).scopes (bAt l x).scopes) ys) = bestB l fs x → (∀ y ∈ ys, y ∈ fs) → Tr (fun m => m_spec_l3Find_l3 m l fs (k : Int) b (j : Int)) (match (bif bestB l fs x then some x else firstB l fs zs) with
        | some i => (i, 1)
        | none => (0, bif decide (0 < (fs.length : Int)) then 2 else 0))) ?_ ?_ 0 (Nat.zero_le _) true (by rw [Bool.true_and, List.drop_zero]; rfl) (fun z hzz => by simpa using hzz)
    · exact inner
    · intro b hb _
      rw [alls, Bool.and_true] at hb
      exact Tr.step (fun m => by rw [m_spec_l3Find_l3, ltN_self, cond_false]) (j2 b hb.symm)
    · intro j y ys hj hy hdy ihj b hb hys
      have hy1 := hm y (hys y (by simp))
      refine Tr.step (fun m => by rw [m_spec_l3Find_l3, ltN hj, cond_true]) ?_
      rw [alls] at hb
      cases b with
      | true =>
        refine Tr.tt rfl (Tr.eq (fun m => by rw [idx_nat hy, Option.bind_some, bAt_idx hy1.1 hy1.2, Option.bind_some, idx_nat hx, Option.bind_some, bAt_idx hx1.1 hx1.2, Option.bind_some]) (Tr.bind (specWithin_tr _ _) ?_))
        refine Tr.step (fun m => by rw [m_spec_l3Find_j4, succN]) (ihj _ ?_ (fun z hzz => hys z (by simp [hzz])))
        rw [Bool.true_and] at hb; exact hb
      | false =>
        refine Tr.ff rfl (Tr.step (fun m => by rw [m_spec_l3Find_j4, succN]) (ihj _ ?_ (fun z hzz => hys z (by simp [hzz]))))
        rw [Bool.false_and] at hb ⊢; exact hb
theorem firstB_mem {l : List Bind} {fits : List Int} : ∀ {is : List Int} {i : Int}, firstB l fits is = some i → i ∈ is
  | z :: is, i, h => by
    rw [firstB] at h
    cases hb : bestB l fits z with
    | true => rw [hb, cond_true] at h; cases h; simp
    | false => rw [hb, cond_false] at h; simp [firstB_mem h]
theorem refB_cases (l : List Bind) (f : Form) : (∃ i, refB l f = (i, 1) ∧ 0 ≤ i ∧ i < (l.length : Int)) ∨ refB l f = (0, 2) ∨ refB l f = (0, 0) := by
  unfold refB
  cases h : firstB l (fitsB l f) (fitsB l f) with
  | some i => exact .inl ⟨i, rfl, fitsB_mem (firstB_mem h)⟩
  | none => cases decide (0 < ((fitsB l f).length : Int)) with
    | true => exact .inr (.inl rfl)
    | false => exact .inr (.inr rfl)
end Go.Abs
end
section
set_option linter.unusedVariables false
set_option linter.unusedSimpArgs false
namespace Go.Abs
structure PatS (p : Form) : Prop where
  ok : ∃ d, p.isOk d = true
  shp : p.shp = true
def KidS (x : Form) : Prop := (∃ d, x.isOk d = true) ∧ (isDots x = true ∨ x.shp = true)
theorem isOk_kids {f : Form} {d : Nat} (h : f.isOk d = true) : (f.kind ≠ 3 → f.kids = []) ∧ ∀ x ∈ f.kids, x.isOk (d - 1) = true := by
  rw [Form.isOk_eq] at h
  cases hd : decide (d = 0) with
  | true => rw [hd] at h; cases h
  | false =>
  rw [hd, cond_false] at h
  by_cases h1 : f.kind = 1
  · rw [decide_eq_true h1, cond_true] at h
    simp only [Bool.and_eq_true, decide_eq_true_eq] at h
    have : f.kids = [] := List.eq_nil_of_length_eq_zero (by omega)
    exact ⟨fun _ => this, fun x hx => by rw [this] at hx; cases hx⟩
  · rw [decide_eq_false h1, cond_false] at h
    by_cases h2 : f.kind = 2
    · rw [decide_eq_true h2, cond_true] at h
      simp only [Bool.and_eq_true, decide_eq_true_eq] at h
      have : f.kids = [] := List.eq_nil_of_length_eq_zero (by omega)
      exact ⟨fun _ => this, fun x hx => by rw [this] at hx; cases hx⟩
    · rw [decide_eq_false h2, cond_false] at h
      simp only [Bool.and_eq_true, decide_eq_true_eq] at h
      obtain ⟨h3, _, _, _, h4⟩ := h
      exact ⟨fun hn => absurd h3 hn, fun x hx => alls_iff.1 h4 x hx⟩
theorem kP_mem : ∀ {l : List Form} {pd : Bool}, Form.kP pd l = true → ∀ x ∈ l, isDots x = true ∨ x.shp = true
  | y :: ys, pd, h, x, hx => by
    rw [Form.kP, Bool.and_eq_true] at h
    rcases List.mem_cons.1 hx with rfl | hx
    · cases hd : isDots x with
      | true => exact .inl rfl
      | false => have := h.1; rw [hd, cond_false] at this; exact .inr this
    · exact kP_mem h.2 x hx
theorem PatS.parts {p : Form} (h : PatS p) : isDots p = false ∧ Form.kP true p.kids = true ∧ cntD p.kids ≤ 1 ∧ (∀ x ∈ p.kids, KidS x) ∧ (p.kind ≠ 3 → p.kids = []) := by
  obtain ⟨⟨d, hd⟩, hs⟩ := h
  rw [Form.shp_eq, Bool.and_eq_true, Bool.and_eq_true, Bool.not_eq_true', decide_eq_true_eq] at hs
  obtain ⟨k1, k2⟩ := isOk_kids hd
  exact ⟨hs.1, hs.2.1, hs.2.2, fun x hx => ⟨⟨_, k2 x hx⟩, kP_mem hs.2.1 x hx⟩, k1⟩
end Go.Abs
end
section
set_option linter.unusedVariables false
set_option linter.unusedSimpArgs false
namespace Go.Abs
def MR (o : Option (List Hit)) (out : List Hit) (r : List Hit × Bool) : Prop := r.2 = o.isSome ∧ ∀ h, o = some h → r.1 = out ++ h
theorem MR.none {out : List Hit} {x : List Hit} : MR none out (x, false) := ⟨rfl, fun h hh => by cases hh⟩
end Go.Abs
end
section
set_option linter.unusedVariables false
set_option linter.unusedSimpArgs false
namespace Go.Abs
def bindOk (b : Bind) : Bool := nmOk b.name && (scOk b.scopes && (decide (1 ≤ b.id) && decide (b.id ≤ 999)))
noncomputable def bvF : List Bind → List Bind → Bool
  | _, [] => true
  | ps, b :: bs => (bindOk b && !anys (fun c => decide (c.name = b.name) && same c.scopes b.scopes) ps) && bvF (ps ++ [b]) bs
noncomputable def bvOk (l : List Bind) : Bool := bvF [] l && decide ((l.length : Int) ≤ 60)
def Bind.fit (b : Bind) : Prop := b.name.size ≤ 9223372036854775807 ∧ b.scopes.length ≤ 9223372036854775807
theorem specBindsValid_tr (l : List Bind) (hf : ∀ b ∈ l, b.fit) : Tr (fun m => m_spec_BindsValid m l) (bvOk l) := by
  refine Tr.eq (fun m => by unfold m_spec_BindsValid; rfl) ?_
  have key := drop_ind l (fun k zs => Tr (fun m => m_spec_BindsValid_l1 m l (k : Int)) (bvF (l.take k) zs && decide ((l.length : Int) ≤ 60))) ?_ ?_ 0 (Nat.zero_le _)
  · simpa [bvOk] using key
  · exact Tr.step (fun m => by rw [m_spec_BindsValid_l1, ltN_self, cond_false]) (Tr.step (fun m => by rw [m_spec_BindsValid_j2, cond_false]) (by rw [bvF, Bool.true_and]; exact Tr.val))
  · intro k x zs hk hx hd ih
    have hm := List.mem_of_getElem? hx
    have hxf := hf x hm
    rw [take_succ' hx] at ih
    refine Tr.step (fun m => by rw [m_spec_BindsValid_l1, ltN hk, cond_true]) ?_
    by_cases h60 : k ≤ 60
    case neg =>
      refine Tr.step (fun m => by rw [m_spec_BindsValid_j2, decide_eq_false (show ¬ (k : Int) ≤ 60 by omega), cond_false]) ?_
      rw [decide_eq_false (show ¬ (l.length : Int) ≤ 60 by omega), Bool.and_false]
      exact Tr.val
    refine Tr.step (fun m => by rw [m_spec_BindsValid_j2, decide_eq_true (show (k : Int) ≤ 60 by omega), cond_true, idx_nat hx, Option.bind_some]) (Tr.bind (specNm_tr _) ?_)
    have j3 : ∀ b : Bool, bindOk x = !b → Tr (fun m => m_spec_BindsValid_j3 m l (k : Int) b) (bvF (l.take k) (x :: zs) && decide ((l.length : Int) ≤ 60)) := by
      intro b hb
      rw [bvF, hb]
      cases b with
      | true => exact Tr.step (fun m => by rw [m_spec_BindsValid_j3, cond_true]; rfl) Tr.val
      | false =>
        rw [Bool.not_false, Bool.true_and]
        refine Tr.step (fun m => by rw [m_spec_BindsValid_j3, cond_false]) ?_
        have inner : ∀ d j : Nat, j + d = k → Tr (fun m => m_spec_BindsValid_l4 m l (k : Int) (j : Int)) ((!anys (fun c => decide (c.name = x.name) && same c.scopes x.scopes) ((l.take k).drop j) && bvF (l.take k ++ [x]) zs) && decide ((l.length : Int) ≤ 60)) := by
          intro d
          induction d with
          | zero =>
            intro j hj
            obtain rfl : j = k := by omega
            refine Tr.step (fun m => by rw [m_spec_BindsValid_l4, ltN_self, cond_false, w64_in (by omega), succN]) ?_
            rw [show (l.take j).drop j = [] by rw [List.drop_eq_nil_iff, List.length_take]; omega, anys, Bool.not_false, Bool.true_and]
            exact ih
          | succ d ihd =>
            intro j hj
            have hjl : j < l.length := by omega
            have hy : l[j]? = some l[j] := List.getElem?_eq_getElem hjl
            have hdr : (l.take k).drop j = l[j] :: (l.take k).drop (j + 1) := by
              have : (l.take k)[j]? = some l[j] := by rw [List.getElem?_take, if_pos (by omega), hy]
              exact drop_get this
            rw [hdr, anys]
            refine Tr.step (fun m => by rw [m_spec_BindsValid_l4, ltN (show j < k by omega), cond_true, idx_nat hy, Option.bind_some, idx_nat hx, Option.bind_some]) ?_
            have j5 : ∀ b : Bool, (decide (l[j].name = x.name) && same l[j].scopes x.scopes) = b → Tr (fun m => m_spec_BindsValid_j5 m l (k : Int) (j : Int) b) ((!((decide (l[j].name = x.name) && same l[j].scopes x.scopes) || anys (fun c => decide (c.name = x.name) && same c.scopes x.scopes) ((l.take k).drop (j + 1))) && bvF (l.take k ++ [x]) zs) && decide ((l.length : Int) ≤ 60)) := by
              intro b hb
              rw [hb]
              cases b with
              | true => exact Tr.step (fun m => by rw [m_spec_BindsValid_j5, cond_true]; rfl) Tr.val
              | false => exact Tr.step (fun m => by rw [m_spec_BindsValid_j5, cond_false, w64_in (by omega), succN]) (by rw [Bool.false_or]; exact ihd (j + 1) (by omega))
            by_cases hn : l[j].name = x.name
            · refine Tr.tt (decide_eq_true hn) (Tr.eq (fun m => by rw [Option.bind_some, Option.bind_some]) (Tr.bind (l1Ints_tr _ _) (j5 _ ?_)))
              rw [decide_eq_true hn, Bool.true_and]
            · refine Tr.ff (decide_eq_false hn) (j5 false ?_)
              rw [decide_eq_false hn, Bool.false_and]
        have := inner k 0 (by omega)
        rw [List.drop_zero] at this
        exact this
    unfold bindOk at j3
    cases hn : nmOk x.name with
    | false => exact Tr.tt rfl (j3 true (by rw [hn]; rfl))
    | true =>
    refine Tr.ff rfl (Tr.eq (fun m => by rw [Option.bind_some]) (Tr.bind (specSc_tr _ hxf.2) ?_))
    cases hs : scOk x.scopes with
    | false => exact Tr.tt rfl (j3 true (by rw [hn, hs]; rfl))
    | true =>
    refine Tr.ff rfl (Tr.eq (fun m => by rw [Option.bind_some]) ?_)
    by_cases h1 : x.id < 1
    · exact Tr.tt (decide_eq_true h1) (j3 true (by rw [decide_eq_false (show ¬ 1 ≤ x.id by omega), Bool.false_and, Bool.and_false, Bool.and_false]; rfl))
    · refine Tr.ff (decide_eq_false h1) (Tr.eq (fun m => by rw [Option.bind_some]) (j3 _ ?_))
      rw [hn, hs, decide_eq_true (show 1 ≤ x.id by omega), Bool.true_and, Bool.true_and, Bool.true_and]
      by_cases h2 : x.id ≤ 999
      · rw [decide_eq_true h2, decide_eq_false (show ¬ 999 < x.id by omega)]; rfl
      · rw [decide_eq_false h2, decide_eq_true (show 999 < x.id by omega)]; rfl
end Go.Abs
end
section
set_option linter.unusedVariables false
set_option linter.unusedSimpArgs false
namespace Go.Abs
noncomputable def rulesOkB (rules : List Rule) (lits : List Form) : Bool := alls (fun r => ruleOk r lits) rules && (decide ((rules.length : Int) ≤ 9) && litOk lits)
structure DrR (n : Nat) (r : Rule) : Prop where
  p : Dr n r.pattern
  t : Dr n r.template
theorem l5Rules_tr (rules : List Rule) (lits : List Form) (hr : ∀ r ∈ rules, DrR (2 ^ 36) r) (hl : Form.fits lits) (hlb : Form.ws lits ≤ 2 ^ 36) : Tr (fun m => m_spec_l5Rules m rules lits) (rulesOkB rules lits) := by
  refine Tr.eq (fun m => by unfold m_spec_l5Rules; rfl) ?_
  have key := drop_ind rules (fun k zs => (∀ z ∈ zs, z ∈ rules) → Tr (fun m => m_spec_l5Rules_l1 m rules lits (k : Int)) (alls (fun r => ruleOk r lits) zs && (decide ((rules.length : Int) ≤ 9) && litOk lits))) ?_ ?_ 0 (Nat.zero_le _) (fun z hz => by simpa using hz)
  · exact key
  · intro _
    refine Tr.step (fun m => by rw [m_spec_l5Rules_l1, ltN_self, cond_false]) (Tr.step (fun m => by rw [m_spec_l5Rules_j2, cond_false]) ?_)
    rw [alls, Bool.true_and]
    by_cases h9 : (rules.length : Int) ≤ 9
    · rw [decide_eq_true h9, Bool.true_and]
      exact Tr.tt (decide_eq_true (by omega)) (Tr.bind (specLit_tr lits hl hlb) Tr.val)
    · rw [decide_eq_false h9, Bool.false_and]
      exact Tr.ff (decide_eq_false (by omega)) Tr.val
  · intro k x zs hk hx hd ih hz
    have hxr := hr x (hz x (by simp))
    refine Tr.step (fun m => by rw [m_spec_l5Rules_l1, ltN hk, cond_true]) ?_
    by_cases h10 : (k : Int) < 10
    · refine Tr.step (fun m => by rw [m_spec_l5Rules_j2, decide_eq_true h10, cond_true, idx_nat hx, Option.bind_some]) ?_
      have hsr := specRuleValid_tr x lits hxr.p.fit hxr.p.w hxr.t.fit hxr.t.w hl hlb
      have hsr2 : Tr (fun m => m_spec_l5Rule m x lits) (ruleOk x lits) := by
        obtain ⟨n, h⟩ := hsr
        refine ⟨n, fun m hm => ?_⟩
        have := h m hm
        unfold m_spec_RuleValid at this
        show m_spec_l5Rule m x lits = _
        replace this : (m_spec_l5Rule m x lits).bind (fun v1 => some v1) = some (ruleOk x lits) := this
        cases h5 : m_spec_l5Rule m x lits with
        | none => rw [h5] at this; cases this
        | some b => rw [h5] at this; exact this
      refine Tr.bind hsr2 ?_
      rw [alls]
      cases ruleOk x lits with
      | false => exact Tr.tt rfl Tr.val
      | true => exact Tr.ff rfl (Tr.eq (fun m => by rw [w64_in (by omega), succN]) (ih (fun z h => hz z (by simp [h]))))
    · refine Tr.step (fun m => by rw [m_spec_l5Rules_j2, decide_eq_false h10, cond_false]) ?_
      rw [decide_eq_false (show ¬ (rules.length : Int) ≤ 9 by omega), Bool.false_and, Bool.and_false]
      exact Tr.ff (decide_eq_false (by omega)) Tr.val
end Go.Abs
end
section
set_option linter.unusedVariables false
set_option linter.unusedSimpArgs false
namespace Go.Abs
def sumW {α : Type} (W : α → Nat) : List α → Nat
  | [] => 0
  | x :: xs => W x + sumW W xs
theorem sumW_mem {α : Type} {W : α → Nat} : ∀ {l : List α} {x : α}, x ∈ l → W x ≤ sumW W l
  | y :: ys, x, h => by
    rw [sumW]
    rcases List.mem_cons.1 h with rfl | h
    · omega
    · have := sumW_mem (W := W) h; omega
theorem sz_loop {α : Type} {l : List α} {W : α → Nat} {L : Nat → Int → Int → Option Int} {E : Nat → α → Int → Option Int}
    (h0 : ∀ m g k, L (m + 1) g k = bif decide (k < (l.length : Int)) then (idx l k).bind fun a => (E m a g).bind fun v => bif decide (v < 0) then some (-1) else L m v (k + 1) else some g)
    (hE : ∀ x ∈ l, ∀ v : Int, 0 ≤ v → v ≤ 2 ^ 40 → TQ (fun m => E m x v) (Left v (W x))) {v : Int} (hv : 0 ≤ v) (h1 : v ≤ 2 ^ 40) : TQ (fun m => L m v 0) (Left v (sumW W l)) := by
  have key := drop_ind l (fun k zs => ∀ g : Int, 0 ≤ g → g ≤ 2 ^ 40 → TQ (fun m => L m g (k : Int)) (Left g (sumW W zs))) ?_ ?_ 0 (Nat.zero_le _) _ hv h1
  · simpa using key
  · intro g hg _
    exact TQ.step (fun m => by rw [h0, ltN_self, cond_false]) (TQ.val (.inr ⟨hg, by simp [sumW]⟩))
  · intro k x zs hk hx hd ihk g hg hg1
    refine TQ.step (fun m => by rw [h0, ltN hk, cond_true, idx_nat hx, Option.bind_some, succN]) ?_
    refine TQ.bind (hE x (List.mem_of_getElem? hx) g hg hg1) (fun r hr => ?_)
    rcases hr with rfl | ⟨hr, rfl⟩
    · exact TQ.cond (fun _ => TQ.val (.inl rfl)) (fun h => absurd h (by decide))
    refine TQ.cond (fun h => absurd h (by rw [geZ hr]; decide)) (fun _ => ?_)
    refine TQ.mono (ihk _ hr (by omega)) (fun r hr => ?_)
    rcases hr with hr | ⟨hr, he⟩
    · exact .inl hr
    · exact .inr ⟨hr, by rw [he, sumW]; omega⟩
theorem sz_two {F : Nat → Option Int} {G : Int → Nat → Option Int} {v : Int} {a b : Nat} (h1 : TQ F (Left v a)) (h2 : ∀ r : Int, 0 ≤ r → r = v - a → TQ (fun m => G r m) (Left r b)) :
    TQ (fun m => (F m).bind fun r => bif decide (r < 0) then some (-1) else (G r m).bind fun s => bif decide (s < 0) then some (-1) else some s) (Left v (a + b)) := by
  refine TQ.bind h1 (fun r hr => ?_)
  rcases hr with rfl | ⟨hr, e⟩
  · exact TQ.cond (fun _ => TQ.val (.inl rfl)) (fun h => absurd h (by decide))
  refine TQ.cond (fun h => absurd h (by rw [geZ hr]; decide)) (fun _ => TQ.bind (h2 r hr e) (fun s hs => ?_))
  rcases hs with rfl | ⟨hs, e2⟩
  · exact TQ.cond (fun _ => TQ.val (.inl rfl)) (fun h => absurd h (by decide))
  exact TQ.cond (fun h => absurd h (by rw [geZ hs]; decide)) (fun _ => TQ.val (.inr ⟨hs, by omega⟩))
theorem sz_many {α : Type} {l : List α} {n : Nat} {v : Int} {G : Int → Nat → Option Int} (hl : l.length ≤ 9223372036854775807) (h0 : 0 ≤ v) (h1 : v ≤ 2 ^ 40) (hG : ∀ r : Int, 0 ≤ r → r = v - l.length → TQ (fun m => G r m) (Left r n)) :
    TQ (fun m => bif decide ((w64 (v - (l.length : Int))) < 0) then some (-1) else G (w64 (v - (l.length : Int))) m) (Left v (l.length + n)) := by
  rw [w64_in (by omega)]
  refine TQ.cond (fun _ => TQ.val (.inl rfl)) (fun h => ?_)
  replace h : 0 ≤ v - (l.length : Int) := by simpa using h
  refine TQ.mono (hG _ h rfl) (fun r hr => ?_)
  rcases hr with hr | ⟨hr, he⟩
  · exact .inl hr
  · exact .inr ⟨hr, by rw [he]; omega⟩
def Bind.wt (b : Bind) : Nat := b.name.size + b.scopes.length
def Rule.wt (r : Rule) : Nat := r.pattern.wt + r.template.wt
def Macro.wt (m : Macro) : Nat := Form.wts m.literals + (m.rules.length + sumW Rule.wt m.rules)
def Expansion.wt (x : Expansion) : Nat := (x.binds.length + sumW Bind.wt x.binds) + (x.macros.length + sumW Macro.wt x.macros)
structure Rule.fit (r : Rule) : Prop where
  p : r.pattern.fit
  t : r.template.fit
structure Macro.fit (m : Macro) : Prop where
  ll : m.literals.length ≤ 9223372036854775807
  l : Form.fits m.literals
  rl : m.rules.length ≤ 9223372036854775807
  r : ∀ r ∈ m.rules, r.fit
structure Expansion.fit (x : Expansion) : Prop where
  bl : x.binds.length ≤ 9223372036854775807
  b : ∀ b ∈ x.binds, b.fit
  ml : x.macros.length ≤ 9223372036854775807
  m : ∀ m ∈ x.macros, m.fit
theorem szBind_tq (b : Bind) (v : Int) (hb : b.fit) (h0 : 0 ≤ v) (h1 : v ≤ 2 ^ 40) : TQ (fun m => m_laws_szBind m b v) (Left v b.wt) := by
  have h2 := hb.1
  refine TQ.eq (fun m => by unfold m_laws_szBind; rw [w64_in (by omega)]) ?_
  refine TQ.cond (fun _ => TQ.val (.inl rfl)) (fun h => ?_)
  replace h : 0 ≤ v - (b.name.size : Int) := by simpa using h
  refine TQ.bind (szIntS_tq _ _ hb.2 h (by omega)) (fun r hr => ?_)
  rcases hr with rfl | ⟨hr, rfl⟩
  · exact TQ.cond (fun _ => TQ.val (.inl rfl)) (fun h => absurd h (by decide))
  exact TQ.cond (fun h => absurd h (by rw [geZ hr]; decide)) (fun _ => TQ.val (.inr ⟨hr, by unfold Bind.wt; omega⟩))
theorem szBindS_tq (l : List Bind) (v : Int) (hl : l.length ≤ 9223372036854775807) (hb : ∀ b ∈ l, b.fit) (h0 : 0 ≤ v) (h1 : v ≤ 2 ^ 40) : TQ (fun m => m_laws_szBindS m l v) (Left v (l.length + sumW Bind.wt l)) := by
  refine TQ.eq (fun m => by unfold m_laws_szBindS; rfl) (sz_many hl h0 h1 (G := fun r m => m_laws_szBindS_l1 m l r 0) (fun r h2 e => ?_))
  exact sz_loop (L := fun m g k => m_laws_szBindS_l1 m l g k) (E := fun m a g => m_laws_szBind m a g) (fun m g k => by rw [m_laws_szBindS_l1]) (fun x hx v h h' => szBind_tq x v (hb x hx) h h') h2 (by omega)
theorem szRule_tq (r : Rule) (v : Int) (hr : r.fit) (h0 : 0 ≤ v) (h1 : v ≤ 2 ^ 40) : TQ (fun m => m_laws_szRule m r v) (Left v r.wt) := by
  refine TQ.eq (fun m => by unfold m_laws_szRule; rfl) ?_
  exact sz_two (szForm_tq _ _ hr.p h0 h1) (G := fun w m => m_laws_szForm m r.template w) (fun w h2 e => szForm_tq _ _ hr.t h2 (by omega))
theorem szRuleS_tq (l : List Rule) (v : Int) (hl : l.length ≤ 9223372036854775807) (hb : ∀ b ∈ l, b.fit) (h0 : 0 ≤ v) (h1 : v ≤ 2 ^ 40) : TQ (fun m => m_laws_szRuleS m l v) (Left v (l.length + sumW Rule.wt l)) := by
  refine TQ.eq (fun m => by unfold m_laws_szRuleS; rfl) (sz_many hl h0 h1 (G := fun r m => m_laws_szRuleS_l1 m l r 0) (fun r h2 e => ?_))
  exact sz_loop (L := fun m g k => m_laws_szRuleS_l1 m l g k) (E := fun m a g => m_laws_szRule m a g) (fun m g k => by rw [m_laws_szRuleS_l1]) (fun x hx v h h' => szRule_tq x v (hb x hx) h h') h2 (by omega)
theorem szMacro_tq (x : Macro) (v : Int) (hx : x.fit) (h0 : 0 ≤ v) (h1 : v ≤ 2 ^ 40) : TQ (fun m => m_laws_szMacro m x v) (Left v x.wt) := by
  refine TQ.eq (fun m => by unfold m_laws_szMacro; rfl) ?_
  exact sz_two (szFormS_tq _ _ hx.ll hx.l h0 h1) (G := fun w m => m_laws_szRuleS m x.rules w) (fun w h2 e => szRuleS_tq _ _ hx.rl hx.r h2 (by omega))
theorem szMacroS_tq (l : List Macro) (v : Int) (hl : l.length ≤ 9223372036854775807) (hb : ∀ b ∈ l, b.fit) (h0 : 0 ≤ v) (h1 : v ≤ 2 ^ 40) : TQ (fun m => m_laws_szMacroS m l v) (Left v (l.length + sumW Macro.wt l)) := by
  refine TQ.eq (fun m => by unfold m_laws_szMacroS; rfl) (sz_many hl h0 h1 (G := fun r m => m_laws_szMacroS_l1 m l r 0) (fun r h2 e => ?_))
  exact sz_loop (L := fun m g k => m_laws_szMacroS_l1 m l g k) (E := fun m a g => m_laws_szMacro m a g) (fun m g k => by rw [m_laws_szMacroS_l1]) (fun x hx v h h' => szMacro_tq x v (hb x hx) h h') h2 (by omega)
theorem szExpansion_tq (x : Expansion) (v : Int) (hx : x.fit) (h0 : 0 ≤ v) (h1 : v ≤ 2 ^ 40) : TQ (fun m => m_laws_szExpansion m x v) (Left v x.wt) := by
  refine TQ.eq (fun m => by unfold m_laws_szExpansion; rfl) ?_
  exact sz_two (szBindS_tq _ _ hx.bl hx.b h0 h1) (G := fun w m => m_laws_szMacroS m x.macros w) (fun w h2 e => szMacroS_tq _ _ hx.ml hx.m h2 (by omega))
structure Expansion.light (x : Expansion) : Prop where
  bl : x.binds.length ≤ 2 ^ 30
  b : ∀ b ∈ x.binds, b.scopes.length ≤ 2 ^ 30
  ml : x.macros.length ≤ 2 ^ 30
  ms : ∀ m ∈ x.macros, Form.ws m.literals ≤ 2 ^ 36 ∧ m.rules.length ≤ 2 ^ 30 ∧ ∀ r ∈ m.rules, r.pattern.w ≤ 2 ^ 36 ∧ r.template.w ≤ 2 ^ 36
theorem Expansion.light_of {x : Expansion} (h : x.wt ≤ 2 ^ 30) : x.light := by
  unfold Expansion.wt at h
  refine ⟨by omega, fun b hb => ?_, by omega, fun m hm => ?_⟩
  · have := sumW_mem (W := Bind.wt) hb
    have e : b.wt = b.name.size + b.scopes.length := rfl
    omega
  · have h1 := sumW_mem (W := Macro.wt) hm
    have e : m.wt = Form.wts m.literals + (m.rules.length + sumW Rule.wt m.rules) := rfl
    have h2 := Form.ws_wts m.literals
    refine ⟨by omega, by omega, fun r hr => ?_⟩
    have h3 := sumW_mem (W := Rule.wt) hr
    have e2 : r.wt = r.pattern.wt + r.template.wt := rfl
    have h4 := r.pattern.w_wt
    have h5 := r.template.w_wt
    exact ⟨by omega, by omega⟩
theorem toBind_tr (b : Bind) (h : b.scopes.length ≤ 2 ^ 36) : Tr (fun m => m_laws_toBind m b) b := by
  refine Tr.eq (fun m => by unfold m_laws_toBind; rfl) (Tr.bind (toIntS_tr _ h) ?_)
  obtain ⟨x, y, z⟩ := b; exact Tr.val
theorem toBindS_tr (l : List Bind) (hl : l.length ≤ 2 ^ 36) (h : ∀ b ∈ l, b.scopes.length ≤ 2 ^ 36) : Tr (fun m => m_laws_toBindS m l) l := by
  refine Tr.eq (fun m => by unfold m_laws_toBindS; rfl) (Tr.chk (by simp; omega) ?_)
  have := loop_copy (xs := l) (z := Bind.mk (⟨#[]⟩ : ByteArray) ([] : List Int) 0) (f := fun x => x) (L := fun m k acc => m_laws_toBindS_l1 m l k acc) (E := fun m a => m_laws_toBind m a) (fun m k acc => by rw [m_laws_toBindS_l1]) (fun a ha => toBind_tr a (h a ha))
  simpa using this
theorem toRule_tr (r : Rule) (h1 : r.pattern.w ≤ 2 ^ 36) (h2 : r.template.w ≤ 2 ^ 36) : Tr (fun m => m_laws_toRule m r) r := by
  refine Tr.eq (fun m => by unfold m_laws_toRule; rfl) (Tr.bind (toForm_tr _ h1) (Tr.bind (toForm_tr _ h2) ?_))
  obtain ⟨a, b⟩ := r; exact Tr.val
theorem toRuleS_tr (l : List Rule) (hl : l.length ≤ 2 ^ 36) (h : ∀ r ∈ l, r.pattern.w ≤ 2 ^ 36 ∧ r.template.w ≤ 2 ^ 36) : Tr (fun m => m_laws_toRuleS m l) l := by
  refine Tr.eq (fun m => by unfold m_laws_toRuleS; rfl) (Tr.chk (by simp; omega) ?_)
  have := loop_copy (xs := l) (z := Rule.mk (Form.mk 0 (⟨#[]⟩ : ByteArray) 0 ([] : List Int) ([] : List Form)) (Form.mk 0 (⟨#[]⟩ : ByteArray) 0 ([] : List Int) ([] : List Form))) (f := fun x => x) (L := fun m k acc => m_laws_toRuleS_l1 m l k acc) (E := fun m a => m_laws_toRule m a) (fun m k acc => by rw [m_laws_toRuleS_l1]) (fun a ha => toRule_tr a (h a ha).1 (h a ha).2)
  simpa using this
theorem toMacro_tr (x : Macro) (h1 : Form.ws x.literals ≤ 2 ^ 36) (h2 : x.rules.length ≤ 2 ^ 36) (h : ∀ r ∈ x.rules, r.pattern.w ≤ 2 ^ 36 ∧ r.template.w ≤ 2 ^ 36) : Tr (fun m => m_laws_toMacro m x) x := by
  refine Tr.eq (fun m => by unfold m_laws_toMacro; rfl) (Tr.bind (toFormS_tr _ h1) (Tr.bind (toRuleS_tr _ h2 h) ?_))
  obtain ⟨a, b, c⟩ := x; exact Tr.val
theorem toMacroS_tr (l : List Macro) (hl : l.length ≤ 2 ^ 36) (h : ∀ x ∈ l, Form.ws x.literals ≤ 2 ^ 36 ∧ x.rules.length ≤ 2 ^ 30 ∧ ∀ r ∈ x.rules, r.pattern.w ≤ 2 ^ 36 ∧ r.template.w ≤ 2 ^ 36) : Tr (fun m => m_laws_toMacroS m l) l := by
  refine Tr.eq (fun m => by unfold m_laws_toMacroS; rfl) (Tr.chk (by simp; omega) ?_)
  have := loop_copy (xs := l) (z := Macro.mk 0 ([] : List Form) ([] : List Rule)) (f := fun x => x) (L := fun m k acc => m_laws_toMacroS_l1 m l k acc) (E := fun m a => m_laws_toMacro m a) (fun m k acc => by rw [m_laws_toMacroS_l1]) (fun a ha => toMacro_tr a (h a ha).1 (by have := (h a ha).2.1; omega) (h a ha).2.2)
  simpa using this
theorem toExpansion_tr (x : Expansion) (h : x.light) : Tr (fun m => m_laws_toExpansion m x) x := by
  have h1 := h.bl
  have h2 := h.ml
  refine Tr.eq (fun m => by unfold m_laws_toExpansion; rfl) (Tr.bind (toBindS_tr _ (by omega) (fun b hb => by have := h.b b hb; omega)) (Tr.bind (toMacroS_tr _ (by omega) h.ms) ?_))
  obtain ⟨a, b, c, d, e⟩ := x; exact Tr.val
theorem loop_self {α : Type} {xs : List α} {L : Nat → Int → Option Bool} {E : Nat → α → α → Option Bool}
    (h0 : ∀ m k, L (m + 1) k = bif decide (k < (xs.length : Int)) then (idx xs k).bind fun a => (idx xs k).bind fun b => (E m a b).bind fun v => bif !v then some false else L m (k + 1) else some true)
    (hE : ∀ a, Tr (fun m => E m a a) true) : Tr (fun m => L m 0) true := by
  have key := drop_ind xs (fun k zs => Tr (fun m => L m (k : Int)) true) ?_ ?_ 0 (Nat.zero_le _)
  · simpa using key
  · exact Tr.step (fun m => by rw [h0, ltN_self, cond_false]) Tr.val
  · intro k x zs hk hx hd ih
    refine Tr.step (fun m => by rw [h0, ltN hk, cond_true, idx_nat hx, Option.bind_some, Option.bind_some, succN]) ?_
    refine Tr.bind (hE x) ?_
    exact Tr.ff rfl ih
theorem eqBind_self (b : Bind) : Tr (fun m => m_laws_eqBind m b b) true := by
  refine Tr.eq (fun m => by unfold m_laws_eqBind; rw [decide_eq_false (fun h => h rfl), cond_false]) (Tr.bind (eqIntS_tr _ _) ?_)
  rw [same_self]
  exact Tr.ff rfl (Tr.ff (decide_eq_false (fun h => h rfl)) Tr.val)
theorem eqBindS_self (l : List Bind) : Tr (fun m => m_laws_eqBindS m l l) true := by
  refine Tr.eq (fun m => by unfold m_laws_eqBindS; rfl) (Tr.ff (lenE rfl) ?_)
  exact loop_self (L := fun m k => m_laws_eqBindS_l1 m l l k) (E := fun m a b => m_laws_eqBind m a b) (fun m k => by rw [m_laws_eqBindS_l1]) eqBind_self
theorem eqRule_self (r : Rule) : Tr (fun m => m_laws_eqRule m r r) true := by
  refine Tr.eq (fun m => by unfold m_laws_eqRule; rfl) (Tr.bind (eqForm_tr _ _) ?_)
  rw [same_self]
  refine Tr.ff rfl (Tr.bind (eqForm_tr _ _) ?_)
  rw [same_self]; exact Tr.ff rfl Tr.val
theorem eqRuleS_self (l : List Rule) : Tr (fun m => m_laws_eqRuleS m l l) true := by
  refine Tr.eq (fun m => by unfold m_laws_eqRuleS; rfl) (Tr.ff (lenE rfl) ?_)
  exact loop_self (L := fun m k => m_laws_eqRuleS_l1 m l l k) (E := fun m a b => m_laws_eqRule m a b) (fun m k => by rw [m_laws_eqRuleS_l1]) eqRule_self
theorem eqMacro_self (x : Macro) : Tr (fun m => m_laws_eqMacro m x x) true := by
  refine Tr.eq (fun m => by unfold m_laws_eqMacro; rw [decide_eq_false (fun h => h rfl), cond_false]) (Tr.bind (eqFormS_tr _ _) ?_)
  rw [same_self]
  exact Tr.ff rfl (Tr.bind (eqRuleS_self _) (Tr.ff rfl Tr.val))
theorem eqMacroS_self (l : List Macro) : Tr (fun m => m_laws_eqMacroS m l l) true := by
  refine Tr.eq (fun m => by unfold m_laws_eqMacroS; rfl) (Tr.ff (lenE rfl) ?_)
  exact loop_self (L := fun m k => m_laws_eqMacroS_l1 m l l k) (E := fun m a b => m_laws_eqMacro m a b) (fun m k => by rw [m_laws_eqMacroS_l1]) eqMacro_self
theorem eqExpansion_self (x : Expansion) : Tr (fun m => m_laws_eqExpansion m x x) true := by
  refine Tr.eq (fun m => by unfold m_laws_eqExpansion; rfl) (Tr.bind (eqBindS_self _) ?_)
  refine Tr.ff rfl ?_
  refine Tr.bind (eqMacroS_self _) ?_
  refine Tr.ff rfl ?_
  exact Tr.ff (decide_eq_false (fun h => h rfl)) (Tr.ff (decide_eq_false (fun h => h rfl)) (Tr.ff (decide_eq_false (fun h => h rfl)) Tr.val))
end Go.Abs
end
section
set_option linter.unusedVariables false
set_option linter.unusedSimpArgs false
namespace Go.Abs
theorem Tr.ite' {α : Type} {F G : Nat → Option α} {b : Bool} {v : α} (h1 : b = true → Tr F v) (h2 : b = false → Tr G v) : Tr (fun m => bif b then F m else G m) v := by
  cases b with
  | true => exact h1 rfl
  | false => exact h2 rfl
theorem fnd_any {α : Type} {D : α → Bool} {l : List α} {k : Nat} : decide (0 ≤ fnd D l k) = anys D l := by
  rw [Bool.eq_iff_iff, decide_eq_true_iff, fnd_ge, anys_iff]
theorem implBindsValid_tr (l : List Bind) (hl : l.length ≤ 9223372036854775807) (hf : ∀ b ∈ l, b.fit) : Tr (fun m => m_impl_BindsValid m l) (bvOk l) := by
  refine Tr.eq (fun m => by unfold m_impl_BindsValid; rfl) ?_
  have key := drop_ind l (fun k zs => Tr (fun m => m_impl_BindsValid_l1 m l (k : Int)) (bvF (l.take k) zs && decide ((l.length : Int) ≤ 60))) ?_ ?_ 0 (Nat.zero_le _)
  · simpa [bvOk] using key
  · exact Tr.step (fun m => by rw [m_impl_BindsValid_l1, ltN_self, cond_false]) (by rw [bvF, Bool.true_and]; exact Tr.val)
  · intro k x zs hk hx hd ih
    have hm := List.mem_of_getElem? hx
    have hxf := hf x hm
    rw [take_succ' hx] at ih
    have j2 : ∀ b : Bool, bindOk x = !b → Tr (fun m => m_impl_BindsValid_j2 m l (k : Int) x b) (bvF (l.take k) (x :: zs) && decide ((l.length : Int) ≤ 60)) := by
      intro b hb
      rw [bvF, hb]
      cases b with
      | true => exact Tr.step (fun m => by rw [m_impl_BindsValid_j2, cond_true]; rfl) Tr.val
      | false =>
        rw [Bool.not_false, Bool.true_and]
        refine Tr.step (fun m => by rw [m_impl_BindsValid_j2, cond_false, sub_take (by omega), Option.bind_some, succN]) ?_
        refine Tr.bind (v := anys (fun c => decide (c.name = x.name) && same c.scopes x.scopes) (l.take k)) ?_ ?_
        · refine Tr.eq (fun m => by unfold m_slices_ContainsFunc_Bind_BindsValid_1; rfl) (Tr.bind (v := fnd (fun c => decide (c.name = x.name) && same c.scopes x.scopes) (l.take k) 0) ?_ (Tr.of fun m => by rw [fnd_any]))
          refine Tr.eq (fun m => by unfold m_slices_IndexFunc_Bind_BindsValid_1; rfl) ?_
          refine loop_find (L := fun m j => m_slices_IndexFunc_Bind_BindsValid_1_l1 m (l.take k) x j) (E := fun m y => m_impl_BindsValid_1 m y x) (fun m j => by rw [m_slices_IndexFunc_Bind_BindsValid_1_l1]) (fun y _ => ?_)
          refine Tr.eq (fun m => by unfold m_impl_BindsValid_1; rfl) ?_
          cases decide (y.name = x.name) with
          | false => exact Tr.ff rfl Tr.val
          | true => exact Tr.tt rfl (Tr.bind (slEqual_tr _ _) Tr.val)
        · cases anys (fun c => decide (c.name = x.name) && same c.scopes x.scopes) (l.take k) with
          | true => exact Tr.tt rfl Tr.val
          | false => exact Tr.ff rfl (by rw [Bool.not_false, Bool.true_and]; exact ih)
    refine Tr.step (fun m => by rw [m_impl_BindsValid_l1, ltN hk, cond_true, idx_nat hx, Option.bind_some]) (Tr.bind (implNm_tr _ hxf.1) ?_)
    cases hn : nmOk x.name with
    | false => exact Tr.tt rfl (j2 true (by unfold bindOk; rw [hn]; rfl))
    | true =>
    refine Tr.ff rfl (Tr.bind (implSc_tr _ hxf.2) ?_)
    cases hs : scOk x.scopes with
    | false => exact Tr.tt rfl (j2 true (by unfold bindOk; rw [hn, hs]; rfl))
    | true =>
    refine Tr.ff rfl (Tr.bind (within_tr _ _ _) (j2 _ ?_))
    unfold bindOk; rw [hn, hs, Bool.not_not]; rfl
theorem hasC_tr (l : List Int) (n : Int) : Tr (fun m => m_slices_Contains_int m l n) (hasB l n) := by
  refine Tr.eq (fun m => by unfold m_slices_Contains_int; rfl) (Tr.bind (v := fnd (fun y => decide (n = y)) l 0) ?_ ?_)
  · refine Tr.eq (fun m => by unfold m_slices_Index_int; rfl) ?_
    exact loop_find (L := fun m j => m_slices_Index_int_l1 m l n j) (E := fun m y => some (decide (n = y))) (fun m j => by rw [m_slices_Index_int_l1]; rfl) (fun y _ => Tr.val)
  · have e : decide (0 ≤ fnd (fun y => decide (n = y)) l 0) = hasB l n := by
      rw [fnd_any, Bool.eq_iff_iff, anys_iff, hasB, anys_iff]
      simp only [decide_eq_true_eq, eq_comm]
    rw [← e]; exact Tr.val
theorem not_anys {α : Type} {D : α → Bool} : ∀ {l : List α}, (!anys (fun x => !D x) l) = alls D l
  | [] => rfl
  | x :: xs => by rw [anys, alls, Bool.not_or, Bool.not_not, not_anys]
theorem implWithin_tr (a b : List Int) : Tr (fun m => m_impl_ScopesWithin m a b) (withinB a b) := by
  refine Tr.eq (fun m => by unfold m_impl_ScopesWithin; rfl) (Tr.bind (v := anys (fun x => !hasB b x) a) ?_ ?_)
  · refine Tr.eq (fun m => by unfold m_slices_ContainsFunc_int_ScopesWithin_1; rfl) (Tr.bind (v := fnd (fun x => !hasB b x) a 0) ?_ (Tr.of fun m => by rw [fnd_any]))
    refine Tr.eq (fun m => by unfold m_slices_IndexFunc_int_ScopesWithin_1; rfl) ?_
    exact loop_find (L := fun m j => m_slices_IndexFunc_int_ScopesWithin_1_l1 m a b j) (E := fun m y => m_impl_ScopesWithin_1 m y b) (fun m j => by rw [m_slices_IndexFunc_int_ScopesWithin_1_l1]) (fun y _ => Tr.eq (fun m => by unfold m_impl_ScopesWithin_1; rfl) (Tr.bind (hasC_tr _ _) Tr.val))
  · rw [← show (!anys (fun x => !hasB b x) a) = withinB a b from not_anys]; exact Tr.val
theorem fitting_tr (l : List Bind) (f : Form) (hb : l.length ≤ 2 ^ 36) : Tr (fun m => m_impl_fitting m l f) (fitsB l f) := by
  refine Tr.eq (fun m => by unfold m_impl_fitting; rfl) ?_
  have key := drop_ind l (fun k zs => ∀ g : List Int, g.length ≤ k → Tr (fun m => m_impl_fitting_l1 m l f g (k : Int)) (g ++ fitsF f zs k)) ?_ ?_ 0 (Nat.zero_le _) [] (by simp)
  · exact key
  · intro g _
    refine Tr.step (fun m => by rw [m_impl_fitting_l1, ltN_self, cond_false]) ?_
    rw [fitsF, List.append_nil]; exact Tr.val
  · intro k x zs hk hx hd ih g hg
    refine Tr.step (fun m => by rw [m_impl_fitting_l1, ltN hk, cond_true, idx_nat hx, Option.bind_some]) ?_
    rw [fitsF]
    have j2 : ∀ b : Bool, fitB f x = b → Tr (fun m => m_impl_fitting_j2 m l f g (k : Int) b) (g ++ ((bif fitB f x then [(k : Int)] else []) ++ fitsF f zs (k + 1))) := by
      intro b hb
      rw [hb]
      refine Tr.step (fun m => by rw [m_impl_fitting_j2]) ?_
      cases b with
      | true =>
        refine Tr.tt rfl (Tr.chk (decide_eq_true (by simp; omega)) ?_)
        have := ih (g ++ [(k : Int)]) (by simp; omega)
        rw [List.append_assoc] at this
        exact this
      | false => exact Tr.ff rfl (by simpa using ih g (by omega))
    unfold fitB at j2
    by_cases hn : x.name = f.name
    · refine Tr.tt (decide_eq_true hn) (Tr.bind (implWithin_tr _ _) (j2 _ ?_))
      rw [decide_eq_true hn, Bool.true_and]
    · refine Tr.ff (decide_eq_false hn) (j2 false ?_)
      rw [decide_eq_false hn, Bool.false_and]
theorem bound_tr (l : List Bind) (f : Form) (hb : l.length ≤ 2 ^ 36) : Tr (fun m => m_impl_bound m l f) (refB l f) := by
  refine Tr.eq (fun m => by unfold m_impl_bound; rfl) (Tr.bind (fitting_tr l f hb) ?_)
  unfold refB
  have hm : ∀ i ∈ fitsB l f, 0 ≤ i ∧ i < (l.length : Int) := fun i hi => fitsB_mem hi
  generalize fitsB l f = fs at hm
  by_cases h0 : fs = []
  · subst h0; exact Tr.tt rfl Tr.val
  have hpos : 0 < fs.length := by cases fs with
    | nil => exact absurd rfl h0
    | cons a b => simp
  rw [decide_eq_true (show 0 < (fs.length : Int) by omega), cond_true]
  refine Tr.ff (decide_eq_false (by omega)) ?_
  have key := drop_ind fs (fun k zs => (∀ z ∈ zs, z ∈ fs) → Tr (fun m => m_impl_bound_l1 m l fs (k : Int)) (match firstB l fs zs with
    | some i => (i, 1)
    | none => (0, 2))) ?_ ?_ 0 (Nat.zero_le _) (fun z hz => by simpa using hz)
  · exact key
  · intro _
    exact Tr.step (fun m => by rw [m_impl_bound_l1, ltN_self, cond_false]; rfl) Tr.val
  · intro k x zs hk hx hd ih hz
    have hx1 := hm x (hz x (by simp))
    refine Tr.step (fun m => by rw [m_impl_bound_l1, ltN hk, cond_true, idx_nat hx, Option.bind_some, succN]) ?_
    rw [firstB]
    refine Tr.bind (v := anys (fun j => !withinB (bAt l j).scopes (bAt l x).scopes) fs) ?_ ?_
    · refine Tr.eq (fun m => by unfold m_slices_ContainsFunc_int_bound_1; rfl) (Tr.bind (v := fnd (fun j => !withinB (bAt l j).scopes (bAt l x).scopes) fs 0) ?_ (Tr.of fun m => by rw [fnd_any]))
      refine Tr.eq (fun m => by unfold m_slices_IndexFunc_int_bound_1; rfl) ?_
      refine loop_find (L := fun m j => m_slices_IndexFunc_int_bound_1_l1 m fs l x j) (E := fun m y => m_impl_bound_1 m y l x) (fun m j => by rw [m_slices_IndexFunc_int_bound_1_l1]) (fun y hy => ?_)
      have hy1 := hm y hy
      exact Tr.eq (fun m => by unfold m_impl_bound_1; rw [bAt_idx hy1.1 hy1.2, Option.bind_some, bAt_idx hx1.1 hx1.2, Option.bind_some]) (Tr.bind (implWithin_tr _ _) Tr.val)
    · have e : (!anys (fun j => !withinB (bAt l j).scopes (bAt l x).scopes) fs) = bestB l fs x := not_anys
      cases hbb : bestB l fs x with
      | true => exact Tr.tt (e.trans hbb) Tr.val
      | false => exact Tr.ff (e.trans hbb) (ih (fun z hzz => hz z (by simp [hzz])))
def macAt (l : List Macro) (n : Int) : Int := fnd (fun x => decide (x.id = n)) l 0
theorem macroAt_tr (l : List Macro) (n : Int) : Tr (fun m => m_impl_macroAt m l n) (macAt l n) := by
  refine Tr.eq (fun m => by unfold m_impl_macroAt; rfl) (Tr.bind (v := macAt l n) ?_ Tr.val)
  refine Tr.eq (fun m => by unfold m_slices_IndexFunc_Macro_macroAt_1; rfl) ?_
  exact loop_find (L := fun m j => m_slices_IndexFunc_Macro_macroAt_1_l1 m l n j) (E := fun m y => m_impl_macroAt_1 m y n) (fun m j => by rw [m_slices_IndexFunc_Macro_macroAt_1_l1]) (fun y _ => Tr.val)
theorem l7Macro_tr (x : Expansion) (n : Int) : Tr (fun m => m_spec_l7Macro m x n) (macAt x.macros n) := by
  refine Tr.eq (fun m => by unfold m_spec_l7Macro; rfl) ?_
  exact loop_find (L := fun m j => m_spec_l7Macro_l1 m x n j) (E := fun m y => some (decide (y.id = n))) (fun m j => by rw [m_spec_l7Macro_l1]; rfl) (fun y _ => Tr.val)
theorem fnd_nth {α : Type} {D : α → Bool} : ∀ {l : List α} {k j : Nat} {x : α}, l[k]? = some x → D x = true → decide (fnd D l j ≠ ((j + k : Nat) : Int)) = decide (0 ≤ fnd D (l.take k) j)
  | y :: ys, 0, j, x, h, hD => by
    have e : y = x := by simpa using h
    subst e
    rw [fnd, hD, cond_true, List.take_zero, fnd, decide_eq_false (by simp), decide_eq_false (by omega)]
  | y :: ys, k + 1, j, x, h, hD => by
    rw [fnd, List.take_succ_cons, fnd]
    cases hy : D y with
    | true => rw [cond_true, cond_true, decide_eq_true (by omega), decide_eq_true (by omega)]
    | false =>
      rw [cond_false, cond_false, ← fnd_nth (l := ys) (k := k) (j := j + 1) (by simpa using h) hD]
      rw [show j + (k + 1) = j + 1 + k by omega]
theorem rulesOk_tr (rules : List Rule) (lits : List Form) (hr : ∀ r ∈ rules, r.fit ∧ r.pattern.w ≤ 2 ^ 36 ∧ r.template.w ≤ 2 ^ 36) (hl : Form.fits lits) : Tr (fun m => m_impl_rulesOk m rules lits) (rulesOkB rules lits) := by
  refine Tr.eq (fun m => by unfold m_impl_rulesOk; rfl) ?_
  unfold rulesOkB
  by_cases h9 : (rules.length : Int) ≤ 9
  case neg => rw [decide_eq_false h9, Bool.false_and, Bool.and_false]; exact Tr.ff rfl Tr.val
  rw [decide_eq_true h9, Bool.true_and]
  refine Tr.tt rfl (Tr.bind (implLit_tr lits hl) ?_)
  cases litOk lits with
  | false => rw [Bool.and_false]; exact Tr.ff rfl Tr.val
  | true =>
  rw [Bool.and_true]
  refine Tr.tt rfl (Tr.bind (v := anys (fun r => !ruleOk r lits) rules) ?_ ?_)
  · refine Tr.eq (fun m => by unfold m_slices_ContainsFunc_Rule_rulesOk_1; rfl) (Tr.bind (v := fnd (fun r => !ruleOk r lits) rules 0) ?_ (Tr.of fun m => by rw [fnd_any]))
    refine Tr.eq (fun m => by unfold m_slices_IndexFunc_Rule_rulesOk_1; rfl) ?_
    refine loop_find (L := fun m j => m_slices_IndexFunc_Rule_rulesOk_1_l1 m rules lits j) (E := fun m y => m_impl_rulesOk_1 m y lits) (fun m j => by rw [m_slices_IndexFunc_Rule_rulesOk_1_l1]) (fun y hy => ?_)
    have h := hr y hy
    exact Tr.eq (fun m => by unfold m_impl_rulesOk_1; rfl) (Tr.bind (implRuleValid_tr y lits h.1.p h.2.1 h.1.t h.2.2 hl) Tr.val)
  · rw [show (fun m => some (!anys (fun r => !ruleOk r lits) rules)) = fun (m : Nat) => some (alls (fun r => ruleOk r lits) rules) from funext fun _ => by rw [not_anys]]
    exact Tr.val
def insB (n lo hi : Int) : Bool := decide (lo ≤ n) && decide (n ≤ hi)
noncomputable def exHead (x : Expansion) : Bool := bvOk x.binds && (insB x.scope 0 99 && (insB x.id 10 999 && (insB x.steps 0 60 && !decide (60 < (x.macros.length : Int)))))
def exBind (n : Int) (b : Bind) : Bool := !(decide (n < b.id) || insB b.id 6 10)
noncomputable def macF (n : Int) : List Macro → List Macro → Bool
  | _, [] => true
  | ps, x :: xs => (rulesOkB x.rules x.literals && (insB x.id 11 n && !decide (0 ≤ macAt ps x.id))) && macF n (ps ++ [x]) xs
noncomputable def exOk (x : Expansion) : Bool := exHead x && (alls (exBind x.id) x.binds && macF x.id [] x.macros)
theorem implExp_tr (x : Expansion) (hx : x.fit) (hw : x.light) : Tr (fun m => m_impl_ExpansionValid m x) (exOk x) := by
  have l2 : Tr (fun m => m_impl_ExpansionValid_l2 m x 0) (macF x.id [] x.macros) := by
    have key := drop_ind x.macros (fun k zs => Tr (fun m => m_impl_ExpansionValid_l2 m x (k : Int)) (macF x.id (x.macros.take k) zs)) ?_ ?_ 0 (Nat.zero_le _)
    · simpa using key
    · exact Tr.step (fun m => by rw [m_impl_ExpansionValid_l2, ltN_self, cond_false]) (by rw [macF]; exact Tr.val)
    · intro k y zs hk hy hd ih
      have hm := List.mem_of_getElem? hy
      have hf := hx.m y hm
      have hl := hw.ms y hm
      rw [take_succ' hy] at ih
      refine Tr.step (fun m => by rw [m_impl_ExpansionValid_l2, ltN hk, cond_true, idx_nat hy, Option.bind_some, succN]) (Tr.bind (rulesOk_tr _ _ (fun r hr => ⟨hf.r r hr, hl.2.2 r hr⟩) hf.l) ?_)
      rw [macF]
      cases rulesOkB y.rules y.literals with
      | false => exact Tr.tt rfl Tr.val
      | true =>
      refine Tr.ff rfl (Tr.bind (within_tr _ _ _) ?_)
      rw [Bool.true_and]
      show Tr (fun m => bif !insB y.id 11 x.id then _ else _) _
      cases insB y.id 11 x.id with
      | false => exact Tr.tt rfl Tr.val
      | true =>
      refine Tr.ff rfl (Tr.eq (fun m => by rw [sub_take (by omega), Option.bind_some]) (Tr.bind (macroAt_tr _ _) ?_))
      rw [Bool.true_and]
      cases decide (0 ≤ macAt (x.macros.take k) y.id) with
      | true => exact Tr.tt rfl Tr.val
      | false => exact Tr.ff rfl (by rw [Bool.not_false, Bool.true_and]; exact ih)
  have j1 : ∀ b : Bool, Tr (fun m => m_impl_ExpansionValid_j1 m x b) (!b && (alls (exBind x.id) x.binds && macF x.id [] x.macros)) := by
    intro b
    cases b with
    | true => exact Tr.step (fun m => by rw [m_impl_ExpansionValid_j1, cond_true]; rfl) Tr.val
    | false =>
    refine Tr.step (fun m => by rw [m_impl_ExpansionValid_j1, cond_false]) ?_
    rw [Bool.not_false, Bool.true_and]
    refine Tr.bind (v := anys (fun b => !exBind x.id b) x.binds) ?_ ?_
    · refine Tr.eq (fun m => by unfold m_slices_ContainsFunc_Bind_ExpansionValid_1; rfl) (Tr.bind (v := fnd (fun b => !exBind x.id b) x.binds 0) ?_ (Tr.of fun m => by rw [fnd_any]))
      refine Tr.eq (fun m => by unfold m_slices_IndexFunc_Bind_ExpansionValid_1; rfl) ?_
      refine loop_find (L := fun m j => m_slices_IndexFunc_Bind_ExpansionValid_1_l1 m x.binds x j) (E := fun m y => m_impl_ExpansionValid_1 m y x) (fun m j => by rw [m_slices_IndexFunc_Bind_ExpansionValid_1_l1]) (fun y _ => ?_)
      refine Tr.eq (fun m => by unfold m_impl_ExpansionValid_1; rfl) ?_
      unfold exBind; rw [Bool.not_not]
      cases decide (x.id < y.id) with
      | true => exact Tr.tt rfl Tr.val
      | false => exact Tr.ff rfl (Tr.bind (within_tr _ _ _) Tr.val)
    · have e : (!anys (fun b => !exBind x.id b) x.binds) = alls (exBind x.id) x.binds := not_anys
      rw [← e]
      cases anys (fun b => !exBind x.id b) x.binds with
      | true => exact Tr.tt rfl Tr.val
      | false => exact Tr.ff rfl (by rw [Bool.not_false, Bool.true_and]; exact l2)
  refine Tr.eq (fun m => by unfold m_impl_ExpansionValid; rfl) (Tr.bind (implBindsValid_tr _ hx.bl hx.b) ?_)
  unfold exOk exHead
  cases bvOk x.binds with
  | false => exact Tr.tt rfl (j1 true)
  | true =>
  refine Tr.ff rfl (Tr.bind (within_tr _ _ _) ?_)
  show Tr (fun m => bif !insB x.scope 0 99 then _ else _) _
  cases insB x.scope 0 99 with
  | false => exact Tr.tt rfl (j1 true)
  | true =>
  refine Tr.ff rfl (Tr.bind (within_tr _ _ _) ?_)
  show Tr (fun m => bif !insB x.id 10 999 then _ else _) _
  cases insB x.id 10 999 with
  | false => exact Tr.tt rfl (j1 true)
  | true =>
  refine Tr.ff rfl (Tr.bind (within_tr _ _ _) ?_)
  show Tr (fun m => bif !insB x.steps 0 60 then _ else _) _
  cases insB x.steps 0 60 with
  | false => exact Tr.tt rfl (j1 true)
  | true => exact Tr.ff rfl (j1 _)
theorem l7In_tr (n lo hi : Int) : Tr (fun m => m_spec_l7In m n lo hi) (insB n lo hi) := by
  refine Tr.eq (fun m => by unfold m_spec_l7In; rfl) ?_
  unfold insB
  cases decide (lo ≤ n) with
  | true => exact Tr.tt rfl Tr.val
  | false => exact Tr.ff rfl Tr.val
theorem specExp_tr (x : Expansion) (hx : x.fit) (hw : x.light) : Tr (fun m => m_spec_ExpansionValid m x) (exOk x) := by
  have l4 : Tr (fun m => m_spec_ExpansionValid_l4 m x 0) (macF x.id [] x.macros) := by
    have key := drop_ind x.macros (fun k zs => Tr (fun m => m_spec_ExpansionValid_l4 m x (k : Int)) (macF x.id (x.macros.take k) zs)) ?_ ?_ 0 (Nat.zero_le _)
    · simpa using key
    · exact Tr.step (fun m => by rw [m_spec_ExpansionValid_l4, ltN_self, cond_false]) (by rw [macF]; exact Tr.val)
    · intro k y zs hk hy hd ih
      have hm := List.mem_of_getElem? hy
      have hf := hx.m y hm
      have hl := hw.ms y hm
      rw [take_succ' hy] at ih
      refine Tr.step (fun m => by rw [m_spec_ExpansionValid_l4, ltN hk, cond_true, idx_nat hy, Option.bind_some, Option.bind_some, Option.bind_some, Option.bind_some, Option.bind_some, succN]) ?_
      rw [macF]
      unfold insB
      by_cases h1 : y.id ≤ 10
      · rw [decide_eq_false (show ¬ 11 ≤ y.id by omega)]
        simp only [Bool.false_and, Bool.and_false]
        exact Tr.tt (decide_eq_true h1) Tr.val
      rw [decide_eq_true (show 11 ≤ y.id by omega), Bool.true_and]
      refine Tr.ff (decide_eq_false h1) ?_
      by_cases h2 : x.id < y.id
      · rw [decide_eq_false (show ¬ y.id ≤ x.id by omega)]
        simp only [Bool.false_and, Bool.and_false]
        exact Tr.tt (decide_eq_true h2) Tr.val
      rw [decide_eq_true (show y.id ≤ x.id by omega), Bool.true_and]
      refine Tr.ff (decide_eq_false h2) (Tr.bind (l7Macro_tr _ _) ?_)
      have e := fnd_nth (D := fun z : Macro => decide (z.id = y.id)) (j := 0) hy (decide_eq_true rfl)
      rw [Nat.zero_add] at e
      replace e : decide (macAt x.macros y.id ≠ (k : Int)) = decide (0 ≤ macAt (x.macros.take k) y.id) := e
      rw [← e]
      cases decide (macAt x.macros y.id ≠ (k : Int)) with
      | true => simp only [Bool.not_true, Bool.and_false, Bool.false_and]; exact Tr.tt rfl Tr.val
      | false =>
      simp only [Bool.not_false, Bool.and_true]
      refine Tr.ff rfl (Tr.bind (l5Rules_tr _ _ (fun r hr => ⟨⟨(hl.2.2 r hr).1, (hf.r r hr).p⟩, ⟨(hl.2.2 r hr).2, (hf.r r hr).t⟩⟩) hf.l hl.1) ?_)
      cases rulesOkB y.rules y.literals with
      | false => exact Tr.tt rfl Tr.val
      | true => exact Tr.ff rfl ih
  have l3 : Tr (fun m => m_spec_ExpansionValid_l3 m x 0) (alls (exBind x.id) x.binds && macF x.id [] x.macros) := by
    have key := drop_ind x.binds (fun k zs => Tr (fun m => m_spec_ExpansionValid_l3 m x (k : Int)) (alls (exBind x.id) zs && macF x.id [] x.macros)) ?_ ?_ 0 (Nat.zero_le _)
    · simpa using key
    · refine Tr.step (fun m => by rw [m_spec_ExpansionValid_l3, ltN_self, cond_false]) (Tr.step (fun m => by rw [m_spec_ExpansionValid_j2]) ?_)
      rw [alls, Bool.true_and]; exact l4
    · intro k y zs hk hy hd ih
      refine Tr.step (fun m => by rw [m_spec_ExpansionValid_l3, ltN hk, cond_true, idx_nat hy, Option.bind_some, Option.bind_some, Option.bind_some, succN]) ?_
      rw [alls, exBind]
      unfold insB
      by_cases h1 : x.id < y.id
      · rw [decide_eq_true h1]; exact Tr.tt rfl Tr.val
      rw [decide_eq_false h1, Bool.false_or]
      refine Tr.ff rfl ?_
      by_cases h2 : 5 < y.id
      · rw [decide_eq_true (show 6 ≤ y.id by omega), Bool.true_and]
        refine Tr.tt (decide_eq_true h2) ?_
        cases decide (y.id ≤ 10) with
        | true => exact Tr.tt rfl Tr.val
        | false => exact Tr.ff rfl (by simpa using ih)
      · rw [decide_eq_false (show ¬ 6 ≤ y.id by omega), Bool.false_and]
        exact Tr.ff (decide_eq_false h2) (by simpa using ih)
  have j1 : ∀ b : Bool, Tr (fun m => m_spec_ExpansionValid_j1 m x b) (!b && (alls (exBind x.id) x.binds && macF x.id [] x.macros)) := by
    intro b
    refine Tr.step (fun m => by rw [m_spec_ExpansionValid_j1]) ?_
    cases b with
    | true => exact Tr.tt rfl Tr.val
    | false => exact Tr.ff rfl (by rw [Bool.not_false, Bool.true_and]; exact l3)
  refine Tr.eq (fun m => by unfold m_spec_ExpansionValid; rfl) (Tr.bind (specBindsValid_tr _ hx.b) ?_)
  unfold exOk exHead
  cases bvOk x.binds with
  | false => exact Tr.tt rfl (j1 true)
  | true =>
  refine Tr.ff rfl ?_
  rw [Bool.true_and]
  cases decide (60 < (x.macros.length : Int)) with
  | true => simp only [Bool.not_true, Bool.and_false, Bool.false_and]; exact Tr.tt rfl (j1 true)
  | false =>
  simp only [Bool.not_false, Bool.and_true]
  refine Tr.ff rfl (Tr.bind (l7In_tr _ _ _) ?_)
  cases insB x.scope 0 99 with
  | false => exact Tr.tt rfl (j1 true)
  | true =>
  refine Tr.ff rfl (Tr.bind (l7In_tr _ _ _) ?_)
  cases insB x.id 10 999 with
  | false => exact Tr.tt rfl (j1 true)
  | true =>
  refine Tr.ff rfl (Tr.bind (l7In_tr _ _ _) ?_)
  have := j1 (!insB x.steps 0 60)
  rw [Bool.not_not] at this
  simpa using this
noncomputable def meanB (x : Expansion) (f : Form) : Int × Int :=
  bif exOk x && isNm f then
    (bif decide ((refB x.binds f).2 = 0) then (0, 0) else bif decide ((refB x.binds f).2 = 2) then (4, 0) else
      bif decide ((bAt x.binds (refB x.binds f).1).id ≤ 5) then (1, (bAt x.binds (refB x.binds f).1).id) else
        bif decide (0 ≤ macAt x.macros (bAt x.binds (refB x.binds f).1).id) then (2, (bAt x.binds (refB x.binds f).1).id) else (3, (bAt x.binds (refB x.binds f).1).id))
  else (0, 0)
theorem bvF_id : ∀ {l ps : List Bind}, bvF ps l = true → ∀ b ∈ l, 1 ≤ b.id
  | x :: xs, ps, h, b, hb => by
    rw [bvF] at h
    simp only [bindOk, Bool.and_eq_true, decide_eq_true_eq] at h
    rcases List.mem_cons.1 hb with rfl | hb
    · exact h.1.1.2.2.1
    · exact bvF_id h.2 b hb
theorem exOk_id {x : Expansion} (h : exOk x = true) : ∀ b ∈ x.binds, 1 ≤ b.id := by
  simp only [exOk, exHead, bvOk, Bool.and_eq_true] at h
  exact bvF_id h.1.1.1
theorem bAt_mem {l : List Bind} {i : Int} (h0 : 0 ≤ i) (h1 : i < l.length) : bAt l i ∈ l := by
  obtain ⟨x, hx, hm⟩ := idx_int h0 h1
  rw [bAt_idx h0 h1] at hx
  cases hx; exact hm
theorem implMean_tr (x : Expansion) (f : Form) (hx : x.fit) (hw : x.light) (hf : f.fit) : Tr (fun m => m_impl_MeaningOf m x f) (meanB x f) := by
  have hbl := hw.bl
  refine Tr.eq (fun m => by unfold m_impl_MeaningOf; rfl) (Tr.bind (implExp_tr x hx hw) ?_)
  unfold meanB
  cases he : exOk x with
  | false => exact Tr.tt rfl (Tr.step (fun m => by rw [m_impl_MeaningOf_j1, cond_true]; rfl) Tr.val)
  | true =>
  refine Tr.ff rfl (Tr.bind (implIsName_tr f hf) ?_)
  rw [Bool.true_and]
  cases isNm f with
  | false => exact Tr.step (fun m => by rw [m_impl_MeaningOf_j1, Bool.not_false, cond_true]; rfl) Tr.val
  | true =>
  refine Tr.step (fun m => by rw [m_impl_MeaningOf_j1, Bool.not_true, cond_false]) ?_
  rw [cond_true]
  refine Tr.bind ?_ Tr.val
  refine Tr.eq (fun m => by unfold m_impl_meaning; rfl) (Tr.bind (bound_tr _ _ (by omega)) ?_)
  rcases refB_cases x.binds f with ⟨i, h, i0, i1⟩ | h | h
  · rw [h]
    refine Tr.ff rfl (Tr.ff rfl (Tr.eq (fun m => by rw [bAt_idx i0 i1, Option.bind_some]) (Tr.bind (within_tr _ _ _) ?_)))
    have h1 := exOk_id he _ (bAt_mem i0 i1)
    rw [decide_eq_true h1, Bool.true_and]
    refine Tr.ite' ?_ ?_
    · exact fun h5 => by rw [h5]; exact Tr.val
    · intro h5
      rw [h5]
      refine Tr.bind (macroAt_tr _ _) ?_
      cases decide (0 ≤ macAt x.macros (bAt x.binds i).id) with
      | true => exact Tr.tt rfl Tr.val
      | false => exact Tr.ff rfl Tr.val
  · rw [h]; exact Tr.ff rfl (Tr.tt rfl Tr.val)
  · rw [h]; exact Tr.tt rfl Tr.val
theorem specMean_tr (x : Expansion) (f : Form) (hx : x.fit) (hw : x.light) (hf : f.fit) (hb : f.w ≤ 2 ^ 36) : Tr (fun m => m_spec_MeaningOf m x f) (meanB x f) := by
  have hbl := hw.bl
  refine Tr.eq (fun m => by unfold m_spec_MeaningOf; rfl) (Tr.bind (specExp_tr x hx hw) ?_)
  unfold meanB
  cases he : exOk x with
  | false => exact Tr.tt rfl (Tr.step (fun m => by rw [m_spec_MeaningOf_j1, cond_true]; rfl) Tr.val)
  | true =>
  refine Tr.ff rfl (Tr.bind (l3Is_tr f hf hb) ?_)
  rw [Bool.true_and]
  cases isNm f with
  | false => exact Tr.step (fun m => by rw [m_spec_MeaningOf_j1, Bool.not_false, cond_true]; rfl) Tr.val
  | true =>
  refine Tr.step (fun m => by rw [m_spec_MeaningOf_j1, Bool.not_true, cond_false]) ?_
  rw [cond_true]
  refine Tr.bind ?_ Tr.val
  refine Tr.eq (fun m => by unfold m_spec_l7Meaning; rfl) (Tr.bind (l3Find_tr _ _ (by omega)) ?_)
  rcases refB_cases x.binds f with ⟨i, h, i0, i1⟩ | h | h
  · rw [h]
    refine Tr.ff rfl (Tr.ff rfl (Tr.eq (fun m => by rw [bAt_idx i0 i1, Option.bind_some]) ?_))
    refine Tr.ite' ?_ ?_
    · exact fun h5 => by rw [h5]; exact Tr.val
    · intro h5
      rw [h5]
      refine Tr.bind (l7Macro_tr _ _) ?_
      cases decide (0 ≤ macAt x.macros (bAt x.binds i).id) with
      | true => exact Tr.tt rfl Tr.val
      | false => exact Tr.ff rfl Tr.val
  · rw [h]; exact Tr.ff rfl (Tr.tt rfl Tr.val)
  · rw [h]; exact Tr.tt rfl Tr.val
theorem FnExactMeaningOf_law (x : Expansion) (f : Form) (hx : x.fit) (hf : f.fit) : TQ (fun m => m_laws_FnExactMeaningOf m x f) (fun b => b = true) := by
  refine TQ.eq (fun m => by unfold m_laws_FnExactMeaningOf; rfl) (TQ.bind (szExpansion_tq x 1048576 hx (by omega) (by omega)) (fun v hv => ?_))
  rcases hv with rfl | ⟨h0, rfl⟩
  · exact TQ.cond (fun _ => TQ.val rfl) (fun h => absurd h (by decide))
  refine TQ.cond (fun h => absurd h (by rw [geZ h0]; decide)) (fun _ => TQ.bind (szForm_tq f _ hf h0 (by omega)) (fun v hv => ?_))
  rcases hv with rfl | ⟨h1, rfl⟩
  · exact TQ.cond (fun _ => TQ.val rfl) (fun h => absurd h (by decide))
  refine TQ.cond (fun h => absurd h (by rw [geZ h1]; decide)) (fun _ => ?_)
  have hw : x.light := Expansion.light_of (by omega)
  have hfw := f.w_wt
  have hfb : f.w ≤ 2 ^ 36 := by omega
  refine TQ.ev (toExpansion_tr x hw) (TQ.ev (toForm_tr f hfb) (TQ.ev (specMean_tr x f hx hw hf hfb) (TQ.ev (toExpansion_tr x hw) (TQ.ev (toForm_tr f hfb) (TQ.ev (implMean_tr x f hx hw hf) ?_)))))
  refine TQ.eq (fun m => by rw [decide_eq_false (fun h => h rfl), cond_false, decide_eq_false (fun h => h rfl)]) ?_
  refine TQ.step (fun m => by rw [m_laws_FnExactMeaningOf_j1, cond_false]) (TQ.ev (toExpansion_tr x hw) (TQ.ev (eqExpansion_self x) ?_))
  refine TQ.eq (fun m => by rw [Bool.not_true, cond_false]) (TQ.ev (toForm_tr f hfb) (TQ.ev (eqForm_tr f f) ?_))
  exact TQ.eq (fun m => by rw [same_self, Bool.not_true, cond_false]) (TQ.val rfl)
end Go.Abs
end
