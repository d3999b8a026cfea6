/- A part of the proof: what the functions that the law calls answer, as pure values. -/
import Derived.KernelRfl
import Derived.Test.YtjjjnhpghhamkaaK0f2d057922fa
import Derived.Test.YtjjjnhpghhamkaaKa70881dd68f7
import Derived.Test.YtjjjnhpghhamkaaKb370a85aa8ee
import Derived.Test.YtjjjnhpghhamkaaKfd4ed9e1c77a
set_option linter.unusedSimpArgs false
set_option linter.unusedVariables false
section
set_option linter.unusedVariables false
set_option linter.unusedSimpArgs false
namespace Go.Abs
theorem l1Copy_tr : ∀ (n : Nat) (f : Form), f.w ≤ n → f.w ≤ 2 ^ 36 → Tr (fun m => m_spec_l1Copy m f) f := by
  intro n
  induction n with
  | zero => intro f h _; have := f.w_kids; omega
  | succ n ih =>
    intro f h hb
    have hw := f.w_kids
    have hl := Form.ws_len f.kids
    refine Tr.step (fun m => by rw [m_spec_l1Copy]) ?_
    refine Tr.chk (by simp; omega) ?_
    have key := drop_ind f.kids (fun k ys => ∀ acc : List Form, acc.length = k → Tr (fun m => m_spec_l1Copy_l1 m f (k : Int) acc) (Form.mk f.kind f.name f.n f.scopes (acc ++ ys))) ?_ ?_ 0 (Nat.zero_le _) [] rfl
    · rw [List.drop_zero, List.nil_append] at key
      obtain ⟨a, b, c, d, e⟩ := f
      exact key
    · intro acc _
      refine Tr.step (fun m => by rw [m_spec_l1Copy_l1, ltN_self]) ?_
      rw [List.append_nil]; exact Tr.val
    · intro k x xs hk hx hd ihk acc hacc
      have hmem : x ∈ f.kids := List.mem_of_getElem? hx
      have hxw := Form.ws_mem hmem
      refine Tr.step (fun m => by rw [m_spec_l1Copy_l1, ltN hk, idx_nat hx, succN]) ?_
      refine Tr.bind (ih x (by omega) (by omega)) ?_
      refine Tr.chk (by simp; omega) ?_
      have := ihk (acc ++ [x]) (by simp; exact hacc)
      rwa [List.append_assoc] at this
theorem Tr.add {α : Type} {F : Nat → Option α} {v : α} (n : Nat) (h : ∀ k, F (k + n) = some v) : Tr F v := ⟨n, fun m hm => by
  have := h (m - n)
  rwa [Nat.sub_add_cancel hm] at this⟩
theorem Form.ws_set : ∀ (l : List Form) (i : Nat) (x : Form) (B : Nat), (∀ y, l[i]? = some y → x.w ≤ y.w + B) → Form.ws (l.set i x) ≤ Form.ws l + B
  | [], i, x, B, _ => by simp [Form.ws]
  | y :: l, 0, x, B, h => by
    have := h y rfl
    rw [List.set_cons_zero, Form.ws, Form.ws]; omega
  | y :: l, i + 1, x, B, h => by
    have := Form.ws_set l i x B (fun z hz => h z (by simpa using hz))
    rw [List.set_cons_succ, Form.ws, Form.ws]; omega
theorem Form.fits_set : ∀ (l : List Form) (i : Nat) (x : Form), Form.fits l → x.fit → Form.fits (l.set i x)
  | [], i, x, h, _ => by simpa using h
  | y :: l, 0, x, h, hx => by
    rw [Form.fits] at h; rw [List.set_cons_zero, Form.fits]; exact ⟨hx, h.2⟩
  | y :: l, i + 1, x, h, hx => by
    rw [Form.fits] at h; rw [List.set_cons_succ, Form.fits]; exact ⟨h.1, Form.fits_set l i x h.2 hx⟩
def mutF (v1 : Form) (o1 : l15Rd) (fuel : Nat) : Option (Form × l15Rd) :=
 (m_spec_l15Rd_pick fuel o1 14).bind fun v9 =>
 (bif (decide (v9.1 = 0)) then
 (m_spec_l15Rd_num fuel v9.2 [0, 4, 1, 3]).bind fun v11 =>
 some ((Form.mk v11.1 v1.name v1.n v1.scopes v1.kids), v11.2)
 else
 (bif (decide (v9.1 = 1)) then
 (m_spec_l15Rd_of fuel v9.2 [(⟨#[]⟩ : ByteArray), (⟨#[65]⟩ : ByteArray), (⟨#[116, 111, 111, 108, 111, 110, 103, 97, 110, 97, 109, 101, 49]⟩ : ByteArray), (⟨#[122]⟩ : ByteArray), (⟨#[120, 32, 121]⟩ : ByteArray)]).bind fun v13 =>
 some ((Form.mk v1.kind v13.1 v1.n v1.scopes v1.kids), v13.2)
 else
 (bif (decide (v9.1 = 2)) then
 (m_spec_l15Rd_num fuel v9.2 [1000, (-1), 5]).bind fun v15 =>
 some ((Form.mk v1.kind v1.name v15.1 v1.scopes v1.kids), v15.2)
 else
 (bif (decide (v9.1 = 3)) then
 (m_spec_l15Rd_num fuel v9.2 [0, 100, 1, 50]).bind fun v17 =>
 chk (decide ((v1.scopes.length + [v17.1].length) * 8 ≤ 140737488355328)) <|
 some ((Form.mk v1.kind v1.name v1.n (v1.scopes ++ [v17.1]) v1.kids), v17.2)
 else
 some (v1, v9.2)))))
theorem mutF_tq (v1 : Form) (o : l15Rd) (K : Int) (h : OkRd o K) (hK : K + 2 ≤ 1000000000) (hw : v1.w ≤ 2 ^ 36) (hf : v1.fit) : TQ (mutF v1 o) (fun r => OkRd r.2 (K + 2) ∧ r.1.w ≤ v1.w + 1 ∧ r.1.fit) := by
  have hk := v1.w_kids
  obtain ⟨f1, f2, f3, f4⟩ := hf.parts
  unfold mutF
  refine TQ.bind (pick_tq o 14 _ h (by omega)) (fun v hv => ?_)
  refine TQ.cond (fun _ => ?_) (fun _ => TQ.cond (fun _ => ?_) (fun _ => TQ.cond (fun _ => ?_) (fun _ => TQ.cond (fun _ => ?_) (fun _ => ?_))))
  · exact TQ.bind (num_tq _ _ _ hv.1 (by omega) (by decide)) (fun w hw => TQ.val ⟨hw.1.mono (by omega), by simp only [Form.w]; omega, by rw [Form.fit]; exact ⟨f1, f2, f3, f4⟩⟩)
  · exact TQ.bind (of_tq _ _ _ hv.1 (by omega) (by decide)) (fun w hw => TQ.val ⟨hw.1.mono (by omega), by simp only [Form.w]; omega, by
      rw [Form.fit]
      refine ⟨?_, f2, f3, f4⟩
      have h2 := hw.2
      simp only [List.mem_cons, List.not_mem_nil, or_false] at h2
      rcases h2 with h2 | h2 | h2 | h2 | h2 <;> rw [h2] <;> decide⟩)
  · exact TQ.bind (num_tq _ _ _ hv.1 (by omega) (by decide)) (fun w hw => TQ.val ⟨hw.1.mono (by omega), by simp only [Form.w]; omega, by rw [Form.fit]; exact ⟨f1, f2, f3, f4⟩⟩)
  · exact TQ.bind (num_tq _ _ _ hv.1 (by omega) (by decide)) (fun w hw => TQ.chk (by simp; omega) (TQ.val ⟨hw.1.mono (by omega), by simp only [Form.w, List.length_append, List.length_cons, List.length_nil]; omega, by rw [Form.fit]; exact ⟨f1, by simp only [List.length_append, List.length_cons, List.length_nil]; omega, f3, f4⟩⟩))
  · exact TQ.val ⟨hv.1.mono (by omega), Nat.le_succ _, hf⟩
theorem l1Mutate_tq : ∀ (n : Nat) (c : Form) (o : l15Rd) (K : Int), c.w ≤ n → OkRd o K → c.w ≤ 2 ^ 30 → c.fit → K + 3 * c.w ≤ 1000000000 → TQ (fun m => m_spec_l1Mutate m o c) (fun r => OkRd r.2 (K + 3 * c.w) ∧ r.1.w ≤ c.w + 1 ∧ r.1.fit) := by
  intro n
  induction n with
  | zero => intro c o K h; have := c.w_kids; omega
  | succ n ih =>
    intro c o K h ho hb hf hK
    have hw := c.w_kids
    obtain ⟨f1, f2, f3, f4⟩ := hf.parts
    refine TQ.step (fun m => by rw [m_spec_l1Mutate]) ?_
    refine TQ.ev (l1Copy_tr _ c (Nat.le_refl _) (by omega)) ?_
    refine TQ.cond (fun hc => ?_) (fun _ => ?_)
    · have hpos : 0 < c.kids.length := by simpa using hc
      have hl := Form.ws_len c.kids
      refine TQ.bind (pick_tq o 2 _ ho (by omega)) (fun v hv => ?_)
      refine TQ.cond (fun _ => ?_) (fun _ => ?_)
      · refine TQ.bind (pick_tq _ _ _ hv.1 (by omega)) (fun w hw2 => ?_)
        obtain ⟨h1, _, h2, _⟩ := hw2
        obtain ⟨h2, h3⟩ := h2 (by omega)
        obtain ⟨x, hx, hm⟩ := idx_int h2 h3
        have hxw := Form.ws_mem hm
        have hx2 := (idx_some hx).2.2
        obtain ⟨r, hr, q1, q2, q3⟩ := ih x w.2 _ (by omega) h1 (by omega) (Form.fits_mem f4 hm) (by omega)
        refine ⟨_, Tr.idx hx (Tr.bind hr (Tr.idx hx Tr.val)), q1.mono (by omega), ?_, ?_⟩
        · have := Form.ws_set c.kids w.1.toNat r.1 1 (fun y hy => by rw [hx2] at hy; cases hy; exact q2)
          simp only [Form.w]; omega
        · rw [Form.fit]; exact ⟨f1, f2, by rw [List.length_set]; exact f3, Form.fits_set _ _ _ f4 q3⟩
      · exact (mutF_tq c _ _ hv.1 (by omega) (by omega) hf).mono (fun r hr => ⟨hr.1.mono (by omega), hr.2⟩)
    · exact (mutF_tq c _ _ ho (by omega) (by omega) hf).mono (fun r hr => ⟨hr.1.mono (by omega), hr.2⟩)
end Go.Abs
end
section
set_option linter.unusedVariables false
namespace Go.Abs
mutual
def Form.fitB : Form → Bool
  | .mk _ name _ scopes kids => decide (name.size ≤ 100) && (decide (scopes.length ≤ 100) && (decide (kids.length ≤ 100) && Form.fitBs kids))
def Form.fitBs : List Form → Bool
  | [] => true
  | f :: fs => f.fitB && Form.fitBs fs
end
mutual
theorem Form.fitB_fit : ∀ {f : Form}, f.fitB = true → f.fit
  | .mk a b c d e, h => by
    rw [Form.fitB] at h
    simp only [Bool.and_eq_true, decide_eq_true_eq] at h
    rw [Form.fit]
    exact ⟨by omega, by omega, by omega, Form.fitBs_fit h.2.2.2⟩
theorem Form.fitBs_fit : ∀ {l : List Form}, Form.fitBs l = true → Form.fits l
  | [], _ => by rw [Form.fits]; trivial
  | f :: fs, h => by
    rw [Form.fitBs, Bool.and_eq_true] at h
    rw [Form.fits]; exact ⟨Form.fitB_fit h.1, Form.fitBs_fit h.2⟩
end
structure Parsed (s : ByteArray) (f : Form) : Prop where
  tr : Tr (fun m => m_spec_l1Parse m s) f
  w : f.w ≤ 100
  fit : f.fit
def Pairs : List (Form × Form) → List (List ByteArray) → Prop
  | [], l => l = []
  | p :: ps, l => ∃ x xs, l = x :: xs ∧ (∃ a b, x = [a, b] ∧ Parsed a p.1 ∧ Parsed b p.2) ∧ Pairs ps xs
theorem Pairs.mem : ∀ {ps : List (Form × Form)} {l : List (List ByteArray)}, Pairs ps l → ∀ x ∈ l, ∃ p ∈ ps, ∃ a b, x = [a, b] ∧ Parsed a p.1 ∧ Parsed b p.2
  | [], l, h, x, hx => by rw [Pairs] at h; subst h; cases hx
  | p :: ps, l, h, x, hx => by
    rw [Pairs] at h
    obtain ⟨y, ys, rfl, h1, h2⟩ := h
    rcases List.mem_cons.1 hx with rfl | hx
    · exact ⟨p, by simp, h1⟩
    · obtain ⟨q, hq, r⟩ := Pairs.mem h2 x hx
      exact ⟨q, by simp [hq], r⟩
end Go.Abs
end
section
set_option linter.unusedVariables false
set_option linter.unusedSimpArgs false
namespace Go.Abs
theorem Form.fits_one {f : Form} (h : f.fit) : Form.fits [f] := by rw [Form.fits, Form.fits]; exact ⟨h, trivial⟩
theorem Form.fits_nil : Form.fits [] := by rw [Form.fits]; trivial
theorem TQ.same {α : Type} {F : Nat → Option α} {v : α} (h : Tr F v) : TQ F (fun r => r = v) := ⟨v, h, rfl⟩
theorem TQ.tr {α : Type} {F : Nat → Option α} {v : α} (h : TQ F (fun r => r = v)) : Tr F v := by obtain ⟨r, h, rfl⟩ := h; exact h
theorem TQ.at {α β : Type} {l : List α} {i : Int} {x : α} {g : α → Nat → Option β} {R : β → Prop} (hx : Abs.idx l i = some x) (h : TQ (fun m => g x m) R) : TQ (fun m => (Abs.idx l i).bind fun y => g y m) R := by
  obtain ⟨w, hw, hr⟩ := h
  exact ⟨w, Tr.idx hx hw, hr⟩
structure Dr (n : Nat) (f : Form) : Prop where
  w : f.w ≤ n
  fit : f.fit
theorem Dr.mono {n k : Nat} {f : Form} (h : Dr n f) (hk : n ≤ k) : Dr k f := ⟨Nat.le_trans h.w hk, h.fit⟩
theorem Parsed.dr {s : ByteArray} {f : Form} (h : Parsed s f) : Dr 100 f := ⟨h.w, h.fit⟩
theorem mutate2_tq (c : Form) (o : l15Rd) (K : Int) (ho : OkRd o K) (hc : Dr 1000 c) (hK : K ≤ 1000000) {β : Type} {g : Form → l15Rd → Nat → Option β} {R : β → Prop}
    (h : ∀ f o', OkRd o' (K + 7000) → Dr (c.w + 2) f → TQ (fun m => g f o' m) R) : TQ (fun m => (m_spec_l1Mutate m o c).bind fun v => (m_spec_l1Mutate m v.2 v.1).bind fun u => g u.1 u.2 m) R := by
  have h1 := hc.w
  refine TQ.bind (l1Mutate_tq _ c o K (Nat.le_refl _) ho (by omega) hc.fit (by omega)) (fun v hv => ?_)
  obtain ⟨v1, v2, v3⟩ := hv
  refine TQ.bind (l1Mutate_tq _ v.1 v.2 _ (Nat.le_refl _) v1 (by omega) v3 (by omega)) (fun u hu => ?_)
  obtain ⟨u1, u2, u3⟩ := hu
  exact h _ _ (u1.mono (by omega)) ⟨by omega, u3⟩
theorem nameForm_dr {s : ByteArray} (h : s.size ≤ 100) : Dr 1 (Form.mk 1 s 0 ([] : List Int) ([] : List Form)) := ⟨by simp [Form.w, Form.ws], by rw [Form.fit, Form.fits]; simp; omega⟩
def elseF : Form := Form.mk 1 (⟨#[101, 108, 115, 101]⟩ : ByteArray) 0 ([] : List Int) ([] : List Form)
theorem elseF_dr : Dr 1 elseF := nameForm_dr (by decide)
theorem pairs_tq {l : List (List ByteArray)} {ps : List (Form × Form)} (hl : Pairs ps l) {i : Int} (h0 : 0 ≤ i) (h1 : i < l.length) : ∃ p ∈ ps, ∃ a b, Abs.idx l i = some [a, b] ∧ Parsed a p.1 ∧ Parsed b p.2 := by
  obtain ⟨x, hx, hm⟩ := idx_int h0 h1
  obtain ⟨p, hp, a, b, rfl, h2, h3⟩ := hl.mem x hm
  exact ⟨p, hp, a, b, hx, h2, h3⟩
theorem idx2_0 {α : Type} (a b : α) : Abs.idx [a, b] 0 = some a := rfl
def lits4 (l : List Form) : Prop := l = [elseF] ∨ l = []
theorem lits4.dr {l : List Form} (h : lits4 l) : Form.ws l ≤ 2 ∧ Form.fits l ∧ l.length ≤ 1 := by
  rcases h with rfl | rfl
  · exact ⟨by decide, Form.fits_one elseF_dr.fit, by decide⟩
  · exact ⟨by decide, Form.fits_nil, by decide⟩
end Go.Abs
end
section
set_option linter.unusedVariables false
set_option linter.unusedSimpArgs false
namespace Go.Abs
theorem loop_app {α β γ : Type} {xs : List α} {c : Nat} {f : α → β} {L : Nat → Int → List β → Option γ} {E : Nat → α → Option β} {fin : List β → γ}
    (h0 : ∀ m k acc, L (m + 1) k acc = bif decide (k < (xs.length : Int)) then (idx xs k).bind fun a => (E m a).bind fun v => chk (decide ((acc.length + [v].length) * c ≤ 140737488355328)) (L m (k + 1) (acc ++ [v])) else some (fin acc))
    (hE : ∀ a ∈ xs, Tr (fun m => E m a) (f a)) (acc0 : List β) (hb : (acc0.length + xs.length) * c ≤ 140737488355328) : Tr (fun m => L m 0 acc0) (fin (acc0 ++ xs.map f)) := by
  have key := drop_ind xs (fun k zs => ∀ acc : List β, (acc.length + zs.length) * c ≤ 140737488355328 → Tr (fun m => L m (k : Int) acc) (fin (acc ++ zs.map f))) ?_ ?_ 0 (Nat.zero_le _) acc0 (by simpa using hb)
  · simpa using key
  · intro acc _
    refine Tr.step (fun m => by rw [h0, ltN_self, cond_false]) ?_
    rw [List.map_nil, List.append_nil]; exact Tr.val
  · intro k x zs hk hx hd ih acc hc
    refine Tr.step (fun m => by rw [h0, ltN hk, cond_true, idx_nat hx, Option.bind_some, succN]) ?_
    refine Tr.bind (hE x (List.mem_of_getElem? hx)) ?_
    have hc1 : (acc.length + 1) * c ≤ 140737488355328 := Nat.le_trans (Nat.mul_le_mul_right c (by simp)) hc
    refine Tr.chk (decide_eq_true (by simpa using hc1)) ?_
    have := ih (acc ++ [f x]) (by
      refine Nat.le_trans (Nat.mul_le_mul_right c ?_) hc
      simp; omega)
    rwa [List.append_assoc] at this
theorem clone_tr (l : List Int) (h : l.length ≤ 2 ^ 36) : Tr (fun m => m_slices_Clone_int m l) l :=
  Tr.eq (fun m => by unfold m_slices_Clone_int; rfl) (Tr.chk (decide_eq_true (by simp; omega)) Tr.val)
theorem copyForm_n : ∀ (n : Nat) (f : Form), f.w ≤ n → f.w ≤ 2 ^ 36 → Tr (fun m => m_impl_copyForm m f) f := by
  intro n
  induction n with
  | zero => intro f h _; have := f.w_kids; omega
  | succ n ih =>
    intro f h hb
    have hw := f.w_kids
    have hl := Form.ws_len f.kids
    refine Tr.step (fun m => by rw [m_impl_copyForm]) (Tr.bind (clone_tr _ (by omega)) ?_)
    have := loop_app (xs := f.kids) (c := 80) (f := fun x => x) (L := fun m k acc => m_impl_copyForm_l1 m f f.scopes k acc) (E := fun m a => m_impl_copyForm m a) (fin := fun g => Form.mk f.kind f.name f.n f.scopes g)
      (fun m k acc => by rw [m_impl_copyForm_l1]) (fun a ha => ih a (by have := Form.ws_mem ha; omega) (by have := Form.ws_mem ha; omega)) [] (by simp; omega)
    rw [List.map_id', List.nil_append] at this
    obtain ⟨a, b, c, d, e⟩ := f
    exact this
theorem copyForm_tr (f : Form) (h : f.w ≤ 2 ^ 36) : Tr (fun m => m_impl_copyForm m f) f := copyForm_n _ f (Nat.le_refl _) h
theorem mxForms_tr (a b : List Form) : Tr (fun m => m_laws_mxForms m a b) (same a b) := by
  refine Tr.eq (fun m => by unfold m_laws_mxForms; rfl) ?_
  by_cases h : a.length = b.length
  · exact Tr.ff (lenE h) (loop_eq h (L := fun m k => m_laws_mxForms_l1 m a b k) (E := fun m x y => m_impl_FormSame m x y) (fun m k => by rw [m_laws_mxForms_l1]) (fun x _ y _ => implFormSame_tr x y))
  · rw [same_len h]; exact Tr.tt (lenB h) Tr.val
mutual
noncomputable def Form.part (x : Form) : Form → Bool
  | .mk a b c d kids => same (Form.mk a b c d kids) x || Form.parts x kids
noncomputable def Form.parts (x : Form) : List Form → Bool
  | [] => false
  | y :: ys => Form.part x y || Form.parts x ys
end
end Go.Abs
end
section
set_option linter.unusedVariables false
set_option linter.unusedSimpArgs false
namespace Go.Abs
def anys {α : Type} (D : α → Bool) : List α → Bool
  | [] => false
  | x :: xs => D x || anys D xs
theorem anys_iff {α : Type} {D : α → Bool} : ∀ {l : List α}, anys D l = true ↔ ∃ x ∈ l, D x = true
  | [] => by simp [anys]
  | x :: xs => by rw [anys, Bool.or_eq_true, anys_iff]; simp
def hasB (l : List Int) (n : Int) : Bool := anys (fun x => decide (x = n)) l
def withinB (a b : List Int) : Bool := alls (fun x => hasB b x) a
def fitB (f : Form) (b : Bind) : Bool := decide (b.name = f.name) && withinB b.scopes f.scopes
end Go.Abs
end
section
set_option linter.unusedVariables false
set_option linter.unusedSimpArgs false
namespace Go.Abs
structure PatS (p : Form) : Prop where
  ok : ∃ d, p.isOk d = true
  shp : p.shp = true
def KidS (x : Form) : Prop := (∃ d, x.isOk d = true) ∧ (isDots x = true ∨ x.shp = true)
theorem isOk_kids {f : Form} {d : Nat} (h : f.isOk d = true) : (f.kind ≠ 3 → f.kids = []) ∧ ∀ x ∈ f.kids, x.isOk (d - 1) = true := by
  rw [Form.isOk_eq] at h
  cases hd : decide (d = 0) with
  | true => rw [hd] at h; cases h
  | false =>
  rw [hd, cond_false] at h
  by_cases h1 : f.kind = 1
  · rw [decide_eq_true h1, cond_true] at h
    simp only [Bool.and_eq_true, decide_eq_true_eq] at h
    have : f.kids = [] := List.eq_nil_of_length_eq_zero (by omega)
    exact ⟨fun _ => this, fun x hx => by rw [this] at hx; cases hx⟩
  · rw [decide_eq_false h1, cond_false] at h
    by_cases h2 : f.kind = 2
    · rw [decide_eq_true h2, cond_true] at h
      simp only [Bool.and_eq_true, decide_eq_true_eq] at h
      have : f.kids = [] := List.eq_nil_of_length_eq_zero (by omega)
      exact ⟨fun _ => this, fun x hx => by rw [this] at hx; cases hx⟩
    · rw [decide_eq_false h2, cond_false] at h
      simp only [Bool.and_eq_true, decide_eq_true_eq] at h
      obtain ⟨h3, _, _, _, h4⟩ := h
      exact ⟨fun hn => absurd h3 hn, fun x hx => alls_iff.1 h4 x hx⟩
theorem kP_mem : ∀ {l : List Form} {pd : Bool}, Form.kP pd l = true → ∀ x ∈ l, isDots x = true ∨ x.shp = true
  | y :: ys, pd, h, x, hx => by
    rw [Form.kP, Bool.and_eq_true] at h
    rcases List.mem_cons.1 hx with rfl | hx
    · cases hd : isDots x with
      | true => exact .inl rfl
      | false => have := h.1; rw [hd, cond_false] at this; exact .inr this
    · exact kP_mem h.2 x hx
theorem PatS.parts {p : Form} (h : PatS p) : isDots p = false ∧ Form.kP true p.kids = true ∧ cntD p.kids ≤ 1 ∧ (∀ x ∈ p.kids, KidS x) ∧ (p.kind ≠ 3 → p.kids = []) := by
  obtain ⟨⟨d, hd⟩, hs⟩ := h
  rw [Form.shp_eq, Bool.and_eq_true, Bool.and_eq_true, Bool.not_eq_true', decide_eq_true_eq] at hs
  obtain ⟨k1, k2⟩ := isOk_kids hd
  exact ⟨hs.1, hs.2.1, hs.2.2, fun x hx => ⟨⟨_, k2 x hx⟩, kP_mem hs.2.1 x hx⟩, k1⟩
end Go.Abs
end
section
set_option linter.unusedVariables false
set_option linter.unusedSimpArgs false
namespace Go.Abs
def MR (o : Option (List Hit)) (out : List Hit) (r : List Hit × Bool) : Prop := r.2 = o.isSome ∧ ∀ h, o = some h → r.1 = out ++ h
theorem MR.none {out : List Hit} {x : List Hit} : MR none out (x, false) := ⟨rfl, fun h hh => by cases hh⟩
end Go.Abs
end
section
set_option linter.unusedVariables false
set_option linter.unusedSimpArgs false
namespace Go.Abs
def Bind.fit (b : Bind) : Prop := b.name.size ≤ 9223372036854775807 ∧ b.scopes.length ≤ 9223372036854775807
theorem Hit.ws_set : ∀ (l : List Hit) (i : Nat) (x : Hit) (B : Nat), (∀ y, l[i]? = some y → x.w ≤ y.w + B) → Hit.ws (l.set i x) ≤ Hit.ws l + B
  | [], i, x, B, _ => by simp [Hit.ws]
  | y :: l, 0, x, B, h => by
    have := h y rfl
    rw [List.set_cons_zero, Hit.ws, Hit.ws]; omega
  | y :: l, i + 1, x, B, h => by
    have := Hit.ws_set l i x B (fun z hz => h z (by simpa using hz))
    rw [List.set_cons_succ, Hit.ws, Hit.ws]; omega
theorem Hit.fits_set : ∀ (l : List Hit) (i : Nat) (x : Hit), Hit.fits l → x.fit → Hit.fits (l.set i x)
  | [], i, x, h, _ => by simpa using h
  | y :: l, 0, x, h, hx => by
    rw [Hit.fits] at h; rw [List.set_cons_zero, Hit.fits]; exact ⟨hx, h.2⟩
  | y :: l, i + 1, x, h, hx => by
    rw [Hit.fits] at h; rw [List.set_cons_succ, Hit.fits]; exact ⟨h.1, Hit.fits_set l i x h.2 hx⟩
end Go.Abs
end
section
set_option linter.unusedVariables false
set_option maxRecDepth 100000
namespace Go.Abs
def t5F0 : Form := (Form.mk 3 (⟨#[]⟩ : ByteArray) 0 ([] : List Int) [(Form.mk 1 (⟨#[114, 117, 108, 101, 115]⟩ : ByteArray) 0 ([] : List Int) ([] : List Form)), (Form.mk 3 (⟨#[]⟩ : ByteArray) 0 ([] : List Int) ([] : List Form)), (Form.mk 3 (⟨#[]⟩ : ByteArray) 0 ([] : List Int) [(Form.mk 3 (⟨#[]⟩ : ByteArray) 0 ([] : List Int) [(Form.mk 1 (⟨#[95]⟩ : ByteArray) 0 ([] : List Int) ([] : List Form)), (Form.mk 1 (⟨#[97]⟩ : ByteArray) 0 ([] : List Int) ([] : List Form)), (Form.mk 1 (⟨#[98]⟩ : ByteArray) 0 ([] : List Int) ([] : List Form))]), (Form.mk 3 (⟨#[]⟩ : ByteArray) 0 ([] : List Int) [(Form.mk 1 (⟨#[108, 101, 116]⟩ : ByteArray) 0 ([] : List Int) ([] : List Form)), (Form.mk 3 (⟨#[]⟩ : ByteArray) 0 ([] : List Int) [(Form.mk 3 (⟨#[]⟩ : ByteArray) 0 ([] : List Int) [(Form.mk 1 (⟨#[116, 109, 112]⟩ : ByteArray) 0 ([] : List Int) ([] : List Form)), (Form.mk 1 (⟨#[97]⟩ : ByteArray) 0 ([] : List Int) ([] : List Form))])]), (Form.mk 3 (⟨#[]⟩ : ByteArray) 0 ([] : List Int) [(Form.mk 1 (⟨#[108, 105, 115, 116]⟩ : ByteArray) 0 ([] : List Int) ([] : List Form)), (Form.mk 1 (⟨#[98]⟩ : ByteArray) 0 ([] : List Int) ([] : List Form)), (Form.mk 1 (⟨#[116, 109, 112]⟩ : ByteArray) 0 ([] : List Int) ([] : List Form))])])])])
theorem t5P0 : Parsed (⟨#[40, 114, 117, 108, 101, 115, 32, 40, 41, 32, 40, 40, 95, 32, 97, 32, 98, 41, 32, 40, 108, 101, 116, 32, 40, 40, 116, 109, 112, 32, 97, 41, 41, 32, 40, 108, 105, 115, 116, 32, 98, 32, 116, 109, 112, 41, 41, 41, 41]⟩ : ByteArray) t5F0 := ⟨Tr.add 100 (fun m => by kernel_rfl), of_decide_eq_true (by kernel_rfl), Form.fitB_fit (by kernel_rfl)⟩
def t5F1 : Form := (Form.mk 3 (⟨#[]⟩ : ByteArray) 0 ([] : List Int) [(Form.mk 1 (⟨#[115, 119, 97, 112]⟩ : ByteArray) 0 ([] : List Int) ([] : List Form)), (Form.mk 1 (⟨#[120]⟩ : ByteArray) 0 ([] : List Int) ([] : List Form)), (Form.mk 1 (⟨#[121]⟩ : ByteArray) 0 ([] : List Int) ([] : List Form))])
theorem t5P1 : Parsed (⟨#[40, 115, 119, 97, 112, 32, 120, 32, 121, 41]⟩ : ByteArray) t5F1 := ⟨Tr.add 100 (fun m => by kernel_rfl), of_decide_eq_true (by kernel_rfl), Form.fitB_fit (by kernel_rfl)⟩
def t5F2 : Form := (Form.mk 3 (⟨#[]⟩ : ByteArray) 0 ([] : List Int) [(Form.mk 1 (⟨#[114, 117, 108, 101, 115]⟩ : ByteArray) 0 ([] : List Int) ([] : List Form)), (Form.mk 3 (⟨#[]⟩ : ByteArray) 0 ([] : List Int) ([] : List Form)), (Form.mk 3 (⟨#[]⟩ : ByteArray) 0 ([] : List Int) [(Form.mk 3 (⟨#[]⟩ : ByteArray) 0 ([] : List Int) [(Form.mk 1 (⟨#[95]⟩ : ByteArray) 0 ([] : List Int) ([] : List Form))]), (Form.mk 2 (⟨#[]⟩ : ByteArray) 0 ([] : List Int) ([] : List Form))]), (Form.mk 3 (⟨#[]⟩ : ByteArray) 0 ([] : List Int) [(Form.mk 3 (⟨#[]⟩ : ByteArray) 0 ([] : List Int) [(Form.mk 1 (⟨#[95]⟩ : ByteArray) 0 ([] : List Int) ([] : List Form)), (Form.mk 1 (⟨#[97]⟩ : ByteArray) 0 ([] : List Int) ([] : List Form))]), (Form.mk 1 (⟨#[97]⟩ : ByteArray) 0 ([] : List Int) ([] : List Form))]), (Form.mk 3 (⟨#[]⟩ : ByteArray) 0 ([] : List Int) [(Form.mk 3 (⟨#[]⟩ : ByteArray) 0 ([] : List Int) [(Form.mk 1 (⟨#[95]⟩ : ByteArray) 0 ([] : List Int) ([] : List Form)), (Form.mk 1 (⟨#[97]⟩ : ByteArray) 0 ([] : List Int) ([] : List Form)), (Form.mk 1 (⟨#[98]⟩ : ByteArray) 0 ([] : List Int) ([] : List Form)), (Form.mk 1 (⟨#[46, 46, 46]⟩ : ByteArray) 0 ([] : List Int) ([] : List Form))]), (Form.mk 3 (⟨#[]⟩ : ByteArray) 0 ([] : List Int) [(Form.mk 1 (⟨#[105, 102]⟩ : ByteArray) 0 ([] : List Int) ([] : List Form)), (Form.mk 1 (⟨#[97]⟩ : ByteArray) 0 ([] : List Int) ([] : List Form)), (Form.mk 2 (⟨#[]⟩ : ByteArray) 1 ([] : List Int) ([] : List Form)), (Form.mk 3 (⟨#[]⟩ : ByteArray) 0 ([] : List Int) [(Form.mk 1 (⟨#[111, 114]⟩ : ByteArray) 0 ([] : List Int) ([] : List Form)), (Form.mk 1 (⟨#[98]⟩ : ByteArray) 0 ([] : List Int) ([] : List Form)), (Form.mk 1 (⟨#[46, 46, 46]⟩ : ByteArray) 0 ([] : List Int) ([] : List Form))])])])])
theorem t5P2 : Parsed (⟨#[40, 114, 117, 108, 101, 115, 32, 40, 41, 32, 40, 40, 95, 41, 32, 48, 41, 32, 40, 40, 95, 32, 97, 41, 32, 97, 41, 32, 40, 40, 95, 32, 97, 32, 98, 32, 46, 46, 46, 41, 32, 40, 105, 102, 32, 97, 32, 49, 32, 40, 111, 114, 32, 98, 32, 46, 46, 46, 41, 41, 41, 41]⟩ : ByteArray) t5F2 := ⟨Tr.add 100 (fun m => by kernel_rfl), of_decide_eq_true (by kernel_rfl), Form.fitB_fit (by kernel_rfl)⟩
def t5F3 : Form := (Form.mk 3 (⟨#[]⟩ : ByteArray) 0 ([] : List Int) [(Form.mk 1 (⟨#[111, 114]⟩ : ByteArray) 0 ([] : List Int) ([] : List Form)), (Form.mk 1 (⟨#[120]⟩ : ByteArray) 0 ([] : List Int) ([] : List Form)), (Form.mk 1 (⟨#[121]⟩ : ByteArray) 0 ([] : List Int) ([] : List Form)), (Form.mk 1 (⟨#[122]⟩ : ByteArray) 0 ([] : List Int) ([] : List Form))])
theorem t5P3 : Parsed (⟨#[40, 111, 114, 32, 120, 32, 121, 32, 122, 41]⟩ : ByteArray) t5F3 := ⟨Tr.add 100 (fun m => by kernel_rfl), of_decide_eq_true (by kernel_rfl), Form.fitB_fit (by kernel_rfl)⟩
def t5F4 : Form := (Form.mk 3 (⟨#[]⟩ : ByteArray) 0 ([] : List Int) [(Form.mk 1 (⟨#[114, 117, 108, 101, 115]⟩ : ByteArray) 0 ([] : List Int) ([] : List Form)), (Form.mk 3 (⟨#[]⟩ : ByteArray) 0 ([] : List Int) ([] : List Form)), (Form.mk 3 (⟨#[]⟩ : ByteArray) 0 ([] : List Int) [(Form.mk 3 (⟨#[]⟩ : ByteArray) 0 ([] : List Int) [(Form.mk 1 (⟨#[95]⟩ : ByteArray) 0 ([] : List Int) ([] : List Form)), (Form.mk 3 (⟨#[]⟩ : ByteArray) 0 ([] : List Int) [(Form.mk 3 (⟨#[]⟩ : ByteArray) 0 ([] : List Int) [(Form.mk 1 (⟨#[120]⟩ : ByteArray) 0 ([] : List Int) ([] : List Form)), (Form.mk 1 (⟨#[118]⟩ : ByteArray) 0 ([] : List Int) ([] : List Form))]), (Form.mk 1 (⟨#[46, 46, 46]⟩ : ByteArray) 0 ([] : List Int) ([] : List Form))]), (Form.mk 1 (⟨#[98, 111, 100, 121]⟩ : ByteArray) 0 ([] : List Int) ([] : List Form))]), (Form.mk 3 (⟨#[]⟩ : ByteArray) 0 ([] : List Int) [(Form.mk 3 (⟨#[]⟩ : ByteArray) 0 ([] : List Int) [(Form.mk 1 (⟨#[108, 97, 109, 98, 100, 97]⟩ : ByteArray) 0 ([] : List Int) ([] : List Form)), (Form.mk 3 (⟨#[]⟩ : ByteArray) 0 ([] : List Int) [(Form.mk 1 (⟨#[120]⟩ : ByteArray) 0 ([] : List Int) ([] : List Form)), (Form.mk 1 (⟨#[46, 46, 46]⟩ : ByteArray) 0 ([] : List Int) ([] : List Form))]), (Form.mk 1 (⟨#[98, 111, 100, 121]⟩ : ByteArray) 0 ([] : List Int) ([] : List Form))]), (Form.mk 1 (⟨#[118]⟩ : ByteArray) 0 ([] : List Int) ([] : List Form)), (Form.mk 1 (⟨#[46, 46, 46]⟩ : ByteArray) 0 ([] : List Int) ([] : List Form))])])])
theorem t5P4 : Parsed (⟨#[40, 114, 117, 108, 101, 115, 32, 40, 41, 32, 40, 40, 95, 32, 40, 40, 120, 32, 118, 41, 32, 46, 46, 46, 41, 32, 98, 111, 100, 121, 41, 32, 40, 40, 108, 97, 109, 98, 100, 97, 32, 40, 120, 32, 46, 46, 46, 41, 32, 98, 111, 100, 121, 41, 32, 118, 32, 46, 46, 46, 41, 41, 41]⟩ : ByteArray) t5F4 := ⟨Tr.add 100 (fun m => by kernel_rfl), of_decide_eq_true (by kernel_rfl), Form.fitB_fit (by kernel_rfl)⟩
def t5F5 : Form := (Form.mk 3 (⟨#[]⟩ : ByteArray) 0 ([] : List Int) [(Form.mk 1 (⟨#[109, 121, 108, 101, 116]⟩ : ByteArray) 0 ([] : List Int) ([] : List Form)), (Form.mk 3 (⟨#[]⟩ : ByteArray) 0 ([] : List Int) [(Form.mk 3 (⟨#[]⟩ : ByteArray) 0 ([] : List Int) [(Form.mk 1 (⟨#[112]⟩ : ByteArray) 0 ([] : List Int) ([] : List Form)), (Form.mk 2 (⟨#[]⟩ : ByteArray) 1 ([] : List Int) ([] : List Form))]), (Form.mk 3 (⟨#[]⟩ : ByteArray) 0 ([] : List Int) [(Form.mk 1 (⟨#[113]⟩ : ByteArray) 0 ([] : List Int) ([] : List Form)), (Form.mk 2 (⟨#[]⟩ : ByteArray) 2 ([] : List Int) ([] : List Form))])]), (Form.mk 3 (⟨#[]⟩ : ByteArray) 0 ([] : List Int) [(Form.mk 1 (⟨#[102]⟩ : ByteArray) 0 ([] : List Int) ([] : List Form)), (Form.mk 1 (⟨#[112]⟩ : ByteArray) 0 ([] : List Int) ([] : List Form)), (Form.mk 1 (⟨#[113]⟩ : ByteArray) 0 ([] : List Int) ([] : List Form))])])
theorem t5P5 : Parsed (⟨#[40, 109, 121, 108, 101, 116, 32, 40, 40, 112, 32, 49, 41, 32, 40, 113, 32, 50, 41, 41, 32, 40, 102, 32, 112, 32, 113, 41, 41]⟩ : ByteArray) t5F5 := ⟨Tr.add 100 (fun m => by kernel_rfl), of_decide_eq_true (by kernel_rfl), Form.fitB_fit (by kernel_rfl)⟩
def t5F6 : Form := (Form.mk 3 (⟨#[]⟩ : ByteArray) 0 ([] : List Int) [(Form.mk 1 (⟨#[114, 117, 108, 101, 115]⟩ : ByteArray) 0 ([] : List Int) ([] : List Form)), (Form.mk 3 (⟨#[]⟩ : ByteArray) 0 ([] : List Int) [(Form.mk 1 (⟨#[101, 108, 115, 101]⟩ : ByteArray) 0 ([] : List Int) ([] : List Form))]), (Form.mk 3 (⟨#[]⟩ : ByteArray) 0 ([] : List Int) [(Form.mk 3 (⟨#[]⟩ : ByteArray) 0 ([] : List Int) [(Form.mk 1 (⟨#[95]⟩ : ByteArray) 0 ([] : List Int) ([] : List Form)), (Form.mk 1 (⟨#[101, 108, 115, 101]⟩ : ByteArray) 0 ([] : List Int) ([] : List Form)), (Form.mk 1 (⟨#[101]⟩ : ByteArray) 0 ([] : List Int) ([] : List Form))]), (Form.mk 1 (⟨#[101]⟩ : ByteArray) 0 ([] : List Int) ([] : List Form))]), (Form.mk 3 (⟨#[]⟩ : ByteArray) 0 ([] : List Int) [(Form.mk 3 (⟨#[]⟩ : ByteArray) 0 ([] : List Int) [(Form.mk 1 (⟨#[95]⟩ : ByteArray) 0 ([] : List Int) ([] : List Form)), (Form.mk 1 (⟨#[99]⟩ : ByteArray) 0 ([] : List Int) ([] : List Form)), (Form.mk 1 (⟨#[101]⟩ : ByteArray) 0 ([] : List Int) ([] : List Form)), (Form.mk 1 (⟨#[114]⟩ : ByteArray) 0 ([] : List Int) ([] : List Form)), (Form.mk 1 (⟨#[46, 46, 46]⟩ : ByteArray) 0 ([] : List Int) ([] : List Form))]), (Form.mk 3 (⟨#[]⟩ : ByteArray) 0 ([] : List Int) [(Form.mk 1 (⟨#[105, 102]⟩ : ByteArray) 0 ([] : List Int) ([] : List Form)), (Form.mk 1 (⟨#[99]⟩ : ByteArray) 0 ([] : List Int) ([] : List Form)), (Form.mk 1 (⟨#[101]⟩ : ByteArray) 0 ([] : List Int) ([] : List Form)), (Form.mk 3 (⟨#[]⟩ : ByteArray) 0 ([] : List Int) [(Form.mk 1 (⟨#[99, 111, 110, 100]⟩ : ByteArray) 0 ([] : List Int) ([] : List Form)), (Form.mk 1 (⟨#[114]⟩ : ByteArray) 0 ([] : List Int) ([] : List Form)), (Form.mk 1 (⟨#[46, 46, 46]⟩ : ByteArray) 0 ([] : List Int) ([] : List Form))])])])])
theorem t5P6 : Parsed (⟨#[40, 114, 117, 108, 101, 115, 32, 40, 101, 108, 115, 101, 41, 32, 40, 40, 95, 32, 101, 108, 115, 101, 32, 101, 41, 32, 101, 41, 32, 40, 40, 95, 32, 99, 32, 101, 32, 114, 32, 46, 46, 46, 41, 32, 40, 105, 102, 32, 99, 32, 101, 32, 40, 99, 111, 110, 100, 32, 114, 32, 46, 46, 46, 41, 41, 41, 41]⟩ : ByteArray) t5F6 := ⟨Tr.add 100 (fun m => by kernel_rfl), of_decide_eq_true (by kernel_rfl), Form.fitB_fit (by kernel_rfl)⟩
def t5F7 : Form := (Form.mk 3 (⟨#[]⟩ : ByteArray) 0 ([] : List Int) [(Form.mk 1 (⟨#[99, 111, 110, 100]⟩ : ByteArray) 0 ([] : List Int) ([] : List Form)), (Form.mk 1 (⟨#[112]⟩ : ByteArray) 0 ([] : List Int) ([] : List Form)), (Form.mk 2 (⟨#[]⟩ : ByteArray) 1 ([] : List Int) ([] : List Form)), (Form.mk 1 (⟨#[101, 108, 115, 101]⟩ : ByteArray) 0 ([] : List Int) ([] : List Form)), (Form.mk 2 (⟨#[]⟩ : ByteArray) 2 ([] : List Int) ([] : List Form))])
theorem t5P7 : Parsed (⟨#[40, 99, 111, 110, 100, 32, 112, 32, 49, 32, 101, 108, 115, 101, 32, 50, 41]⟩ : ByteArray) t5F7 := ⟨Tr.add 100 (fun m => by kernel_rfl), of_decide_eq_true (by kernel_rfl), Form.fitB_fit (by kernel_rfl)⟩
def t5F8 : Form := (Form.mk 3 (⟨#[]⟩ : ByteArray) 0 ([] : List Int) [(Form.mk 1 (⟨#[114, 117, 108, 101, 115]⟩ : ByteArray) 0 ([] : List Int) ([] : List Form)), (Form.mk 3 (⟨#[]⟩ : ByteArray) 0 ([] : List Int) ([] : List Form)), (Form.mk 3 (⟨#[]⟩ : ByteArray) 0 ([] : List Int) [(Form.mk 3 (⟨#[]⟩ : ByteArray) 0 ([] : List Int) [(Form.mk 1 (⟨#[95]⟩ : ByteArray) 0 ([] : List Int) ([] : List Form)), (Form.mk 3 (⟨#[]⟩ : ByteArray) 0 ([] : List Int) [(Form.mk 1 (⟨#[97]⟩ : ByteArray) 0 ([] : List Int) ([] : List Form)), (Form.mk 1 (⟨#[98]⟩ : ByteArray) 0 ([] : List Int) ([] : List Form)), (Form.mk 1 (⟨#[46, 46, 46]⟩ : ByteArray) 0 ([] : List Int) ([] : List Form))]), (Form.mk 1 (⟨#[46, 46, 46]⟩ : ByteArray) 0 ([] : List Int) ([] : List Form))]), (Form.mk 3 (⟨#[]⟩ : ByteArray) 0 ([] : List Int) [(Form.mk 1 (⟨#[109]⟩ : ByteArray) 0 ([] : List Int) ([] : List Form)), (Form.mk 3 (⟨#[]⟩ : ByteArray) 0 ([] : List Int) [(Form.mk 1 (⟨#[97]⟩ : ByteArray) 0 ([] : List Int) ([] : List Form)), (Form.mk 1 (⟨#[46, 46, 46]⟩ : ByteArray) 0 ([] : List Int) ([] : List Form))]), (Form.mk 3 (⟨#[]⟩ : ByteArray) 0 ([] : List Int) [(Form.mk 3 (⟨#[]⟩ : ByteArray) 0 ([] : List Int) [(Form.mk 1 (⟨#[97]⟩ : ByteArray) 0 ([] : List Int) ([] : List Form)), (Form.mk 1 (⟨#[98]⟩ : ByteArray) 0 ([] : List Int) ([] : List Form)), (Form.mk 1 (⟨#[46, 46, 46]⟩ : ByteArray) 0 ([] : List Int) ([] : List Form))]), (Form.mk 1 (⟨#[46, 46, 46]⟩ : ByteArray) 0 ([] : List Int) ([] : List Form))]), (Form.mk 2 (⟨#[]⟩ : ByteArray) 1 ([] : List Int) ([] : List Form))])])])
theorem t5P8 : Parsed (⟨#[40, 114, 117, 108, 101, 115, 32, 40, 41, 32, 40, 40, 95, 32, 40, 97, 32, 98, 32, 46, 46, 46, 41, 32, 46, 46, 46, 41, 32, 40, 109, 32, 40, 97, 32, 46, 46, 46, 41, 32, 40, 40, 97, 32, 98, 32, 46, 46, 46, 41, 32, 46, 46, 46, 41, 32, 49, 41, 41, 41]⟩ : ByteArray) t5F8 := ⟨Tr.add 100 (fun m => by kernel_rfl), of_decide_eq_true (by kernel_rfl), Form.fitB_fit (by kernel_rfl)⟩
def t5F9 : Form := (Form.mk 3 (⟨#[]⟩ : ByteArray) 0 ([] : List Int) [(Form.mk 1 (⟨#[109]⟩ : ByteArray) 0 ([] : List Int) ([] : List Form)), (Form.mk 3 (⟨#[]⟩ : ByteArray) 0 ([] : List Int) [(Form.mk 1 (⟨#[120]⟩ : ByteArray) 0 ([] : List Int) ([] : List Form)), (Form.mk 2 (⟨#[]⟩ : ByteArray) 1 ([] : List Int) ([] : List Form)), (Form.mk 2 (⟨#[]⟩ : ByteArray) 2 ([] : List Int) ([] : List Form))]), (Form.mk 3 (⟨#[]⟩ : ByteArray) 0 ([] : List Int) [(Form.mk 1 (⟨#[121]⟩ : ByteArray) 0 ([] : List Int) ([] : List Form))])])
theorem t5P9 : Parsed (⟨#[40, 109, 32, 40, 120, 32, 49, 32, 50, 41, 32, 40, 121, 41, 41]⟩ : ByteArray) t5F9 := ⟨Tr.add 100 (fun m => by kernel_rfl), of_decide_eq_true (by kernel_rfl), Form.fitB_fit (by kernel_rfl)⟩
def t5F10 : Form := (Form.mk 3 (⟨#[]⟩ : ByteArray) 0 ([] : List Int) [(Form.mk 1 (⟨#[114, 117, 108, 101, 115]⟩ : ByteArray) 0 ([] : List Int) ([] : List Form)), (Form.mk 3 (⟨#[]⟩ : ByteArray) 0 ([] : List Int) ([] : List Form)), (Form.mk 3 (⟨#[]⟩ : ByteArray) 0 ([] : List Int) [(Form.mk 3 (⟨#[]⟩ : ByteArray) 0 ([] : List Int) [(Form.mk 1 (⟨#[95]⟩ : ByteArray) 0 ([] : List Int) ([] : List Form)), (Form.mk 1 (⟨#[97]⟩ : ByteArray) 0 ([] : List Int) ([] : List Form)), (Form.mk 1 (⟨#[46, 46, 46]⟩ : ByteArray) 0 ([] : List Int) ([] : List Form))]), (Form.mk 3 (⟨#[]⟩ : ByteArray) 0 ([] : List Int) [(Form.mk 1 (⟨#[108, 105, 115, 116]⟩ : ByteArray) 0 ([] : List Int) ([] : List Form)), (Form.mk 1 (⟨#[97]⟩ : ByteArray) 0 ([] : List Int) ([] : List Form)), (Form.mk 1 (⟨#[46, 46, 46]⟩ : ByteArray) 0 ([] : List Int) ([] : List Form)), (Form.mk 1 (⟨#[97]⟩ : ByteArray) 0 ([] : List Int) ([] : List Form)), (Form.mk 1 (⟨#[46, 46, 46]⟩ : ByteArray) 0 ([] : List Int) ([] : List Form))])])])
theorem t5P10 : Parsed (⟨#[40, 114, 117, 108, 101, 115, 32, 40, 41, 32, 40, 40, 95, 32, 97, 32, 46, 46, 46, 41, 32, 40, 108, 105, 115, 116, 32, 97, 32, 46, 46, 46, 32, 97, 32, 46, 46, 46, 41, 41, 41]⟩ : ByteArray) t5F10 := ⟨Tr.add 100 (fun m => by kernel_rfl), of_decide_eq_true (by kernel_rfl), Form.fitB_fit (by kernel_rfl)⟩
def t5F11 : Form := (Form.mk 3 (⟨#[]⟩ : ByteArray) 0 ([] : List Int) [(Form.mk 1 (⟨#[116, 119, 105, 99, 101]⟩ : ByteArray) 0 ([] : List Int) ([] : List Form)), (Form.mk 2 (⟨#[]⟩ : ByteArray) 1 ([] : List Int) ([] : List Form)), (Form.mk 2 (⟨#[]⟩ : ByteArray) 2 ([] : List Int) ([] : List Form))])
theorem t5P11 : Parsed (⟨#[40, 116, 119, 105, 99, 101, 32, 49, 32, 50, 41]⟩ : ByteArray) t5F11 := ⟨Tr.add 100 (fun m => by kernel_rfl), of_decide_eq_true (by kernel_rfl), Form.fitB_fit (by kernel_rfl)⟩
def t5F12 : Form := (Form.mk 3 (⟨#[]⟩ : ByteArray) 0 ([] : List Int) [(Form.mk 1 (⟨#[114, 117, 108, 101, 115]⟩ : ByteArray) 0 ([] : List Int) ([] : List Form)), (Form.mk 3 (⟨#[]⟩ : ByteArray) 0 ([] : List Int) ([] : List Form)), (Form.mk 3 (⟨#[]⟩ : ByteArray) 0 ([] : List Int) [(Form.mk 3 (⟨#[]⟩ : ByteArray) 0 ([] : List Int) [(Form.mk 1 (⟨#[95]⟩ : ByteArray) 0 ([] : List Int) ([] : List Form)), (Form.mk 1 (⟨#[97]⟩ : ByteArray) 0 ([] : List Int) ([] : List Form)), (Form.mk 1 (⟨#[46, 46, 46]⟩ : ByteArray) 0 ([] : List Int) ([] : List Form))]), (Form.mk 3 (⟨#[]⟩ : ByteArray) 0 ([] : List Int) [(Form.mk 3 (⟨#[]⟩ : ByteArray) 0 ([] : List Int) [(Form.mk 1 (⟨#[97]⟩ : ByteArray) 0 ([] : List Int) ([] : List Form)), (Form.mk 2 (⟨#[]⟩ : ByteArray) 1 ([] : List Int) ([] : List Form))]), (Form.mk 1 (⟨#[46, 46, 46]⟩ : ByteArray) 0 ([] : List Int) ([] : List Form))])]), (Form.mk 3 (⟨#[]⟩ : ByteArray) 0 ([] : List Int) [(Form.mk 3 (⟨#[]⟩ : ByteArray) 0 ([] : List Int) [(Form.mk 1 (⟨#[95]⟩ : ByteArray) 0 ([] : List Int) ([] : List Form)), (Form.mk 1 (⟨#[98]⟩ : ByteArray) 0 ([] : List Int) ([] : List Form))]), (Form.mk 1 (⟨#[98]⟩ : ByteArray) 0 ([] : List Int) ([] : List Form))])])
theorem t5P12 : Parsed (⟨#[40, 114, 117, 108, 101, 115, 32, 40, 41, 32, 40, 40, 95, 32, 97, 32, 46, 46, 46, 41, 32, 40, 40, 97, 32, 49, 41, 32, 46, 46, 46, 41, 41, 32, 40, 40, 95, 32, 98, 41, 32, 98, 41, 41]⟩ : ByteArray) t5F12 := ⟨Tr.add 100 (fun m => by kernel_rfl), of_decide_eq_true (by kernel_rfl), Form.fitB_fit (by kernel_rfl)⟩
def t5F13 : Form := (Form.mk 3 (⟨#[]⟩ : ByteArray) 0 ([] : List Int) [(Form.mk 1 (⟨#[112, 97, 105, 114, 115]⟩ : ByteArray) 0 ([] : List Int) ([] : List Form)), (Form.mk 1 (⟨#[112]⟩ : ByteArray) 0 ([] : List Int) ([] : List Form)), (Form.mk 1 (⟨#[113]⟩ : ByteArray) 0 ([] : List Int) ([] : List Form))])
theorem t5P13 : Parsed (⟨#[40, 112, 97, 105, 114, 115, 32, 112, 32, 113, 41]⟩ : ByteArray) t5F13 := ⟨Tr.add 100 (fun m => by kernel_rfl), of_decide_eq_true (by kernel_rfl), Form.fitB_fit (by kernel_rfl)⟩
def t5F14 : Form := (Form.mk 3 (⟨#[]⟩ : ByteArray) 0 ([] : List Int) [(Form.mk 1 (⟨#[114, 117, 108, 101, 115]⟩ : ByteArray) 0 ([] : List Int) ([] : List Form)), (Form.mk 3 (⟨#[]⟩ : ByteArray) 0 ([] : List Int) ([] : List Form)), (Form.mk 3 (⟨#[]⟩ : ByteArray) 0 ([] : List Int) [(Form.mk 3 (⟨#[]⟩ : ByteArray) 0 ([] : List Int) [(Form.mk 1 (⟨#[95]⟩ : ByteArray) 0 ([] : List Int) ([] : List Form)), (Form.mk 1 (⟨#[97]⟩ : ByteArray) 0 ([] : List Int) ([] : List Form))]), (Form.mk 1 (⟨#[97]⟩ : ByteArray) 0 ([] : List Int) ([] : List Form))]), (Form.mk 3 (⟨#[]⟩ : ByteArray) 0 ([] : List Int) [(Form.mk 3 (⟨#[]⟩ : ByteArray) 0 ([] : List Int) [(Form.mk 1 (⟨#[95]⟩ : ByteArray) 0 ([] : List Int) ([] : List Form)), (Form.mk 2 (⟨#[]⟩ : ByteArray) 5 ([] : List Int) ([] : List Form))]), (Form.mk 2 (⟨#[]⟩ : ByteArray) 6 ([] : List Int) ([] : List Form))]), (Form.mk 3 (⟨#[]⟩ : ByteArray) 0 ([] : List Int) [(Form.mk 3 (⟨#[]⟩ : ByteArray) 0 ([] : List Int) [(Form.mk 1 (⟨#[95]⟩ : ByteArray) 0 ([] : List Int) ([] : List Form)), (Form.mk 1 (⟨#[97]⟩ : ByteArray) 0 ([] : List Int) ([] : List Form)), (Form.mk 1 (⟨#[98]⟩ : ByteArray) 0 ([] : List Int) ([] : List Form))]), (Form.mk 1 (⟨#[98]⟩ : ByteArray) 0 ([] : List Int) ([] : List Form))])])
theorem t5P14 : Parsed (⟨#[40, 114, 117, 108, 101, 115, 32, 40, 41, 32, 40, 40, 95, 32, 97, 41, 32, 97, 41, 32, 40, 40, 95, 32, 53, 41, 32, 54, 41, 32, 40, 40, 95, 32, 97, 32, 98, 41, 32, 98, 41, 41]⟩ : ByteArray) t5F14 := ⟨Tr.add 100 (fun m => by kernel_rfl), of_decide_eq_true (by kernel_rfl), Form.fitB_fit (by kernel_rfl)⟩
def t5F15 : Form := (Form.mk 3 (⟨#[]⟩ : ByteArray) 0 ([] : List Int) [(Form.mk 1 (⟨#[107]⟩ : ByteArray) 0 ([] : List Int) ([] : List Form)), (Form.mk 2 (⟨#[]⟩ : ByteArray) 5 ([] : List Int) ([] : List Form))])
theorem t5P15 : Parsed (⟨#[40, 107, 32, 53, 41]⟩ : ByteArray) t5F15 := ⟨Tr.add 100 (fun m => by kernel_rfl), of_decide_eq_true (by kernel_rfl), Form.fitB_fit (by kernel_rfl)⟩
def t5T : List (List ByteArray) := [[(⟨#[40, 114, 117, 108, 101, 115, 32, 40, 41, 32, 40, 40, 95, 32, 97, 32, 98, 41, 32, 40, 108, 101, 116, 32, 40, 40, 116, 109, 112, 32, 97, 41, 41, 32, 40, 108, 105, 115, 116, 32, 98, 32, 116, 109, 112, 41, 41, 41, 41]⟩ : ByteArray), (⟨#[40, 115, 119, 97, 112, 32, 120, 32, 121, 41]⟩ : ByteArray)], [(⟨#[40, 114, 117, 108, 101, 115, 32, 40, 41, 32, 40, 40, 95, 41, 32, 48, 41, 32, 40, 40, 95, 32, 97, 41, 32, 97, 41, 32, 40, 40, 95, 32, 97, 32, 98, 32, 46, 46, 46, 41, 32, 40, 105, 102, 32, 97, 32, 49, 32, 40, 111, 114, 32, 98, 32, 46, 46, 46, 41, 41, 41, 41]⟩ : ByteArray), (⟨#[40, 111, 114, 32, 120, 32, 121, 32, 122, 41]⟩ : ByteArray)], [(⟨#[40, 114, 117, 108, 101, 115, 32, 40, 41, 32, 40, 40, 95, 32, 40, 40, 120, 32, 118, 41, 32, 46, 46, 46, 41, 32, 98, 111, 100, 121, 41, 32, 40, 40, 108, 97, 109, 98, 100, 97, 32, 40, 120, 32, 46, 46, 46, 41, 32, 98, 111, 100, 121, 41, 32, 118, 32, 46, 46, 46, 41, 41, 41]⟩ : ByteArray), (⟨#[40, 109, 121, 108, 101, 116, 32, 40, 40, 112, 32, 49, 41, 32, 40, 113, 32, 50, 41, 41, 32, 40, 102, 32, 112, 32, 113, 41, 41]⟩ : ByteArray)], [(⟨#[40, 114, 117, 108, 101, 115, 32, 40, 101, 108, 115, 101, 41, 32, 40, 40, 95, 32, 101, 108, 115, 101, 32, 101, 41, 32, 101, 41, 32, 40, 40, 95, 32, 99, 32, 101, 32, 114, 32, 46, 46, 46, 41, 32, 40, 105, 102, 32, 99, 32, 101, 32, 40, 99, 111, 110, 100, 32, 114, 32, 46, 46, 46, 41, 41, 41, 41]⟩ : ByteArray), (⟨#[40, 99, 111, 110, 100, 32, 112, 32, 49, 32, 101, 108, 115, 101, 32, 50, 41]⟩ : ByteArray)], [(⟨#[40, 114, 117, 108, 101, 115, 32, 40, 41, 32, 40, 40, 95, 32, 40, 97, 32, 98, 32, 46, 46, 46, 41, 32, 46, 46, 46, 41, 32, 40, 109, 32, 40, 97, 32, 46, 46, 46, 41, 32, 40, 40, 97, 32, 98, 32, 46, 46, 46, 41, 32, 46, 46, 46, 41, 32, 49, 41, 41, 41]⟩ : ByteArray), (⟨#[40, 109, 32, 40, 120, 32, 49, 32, 50, 41, 32, 40, 121, 41, 41]⟩ : ByteArray)], [(⟨#[40, 114, 117, 108, 101, 115, 32, 40, 41, 32, 40, 40, 95, 32, 97, 32, 46, 46, 46, 41, 32, 40, 108, 105, 115, 116, 32, 97, 32, 46, 46, 46, 32, 97, 32, 46, 46, 46, 41, 41, 41]⟩ : ByteArray), (⟨#[40, 116, 119, 105, 99, 101, 32, 49, 32, 50, 41]⟩ : ByteArray)], [(⟨#[40, 114, 117, 108, 101, 115, 32, 40, 41, 32, 40, 40, 95, 32, 97, 32, 46, 46, 46, 41, 32, 40, 40, 97, 32, 49, 41, 32, 46, 46, 46, 41, 41, 32, 40, 40, 95, 32, 98, 41, 32, 98, 41, 41]⟩ : ByteArray), (⟨#[40, 112, 97, 105, 114, 115, 32, 112, 32, 113, 41]⟩ : ByteArray)], [(⟨#[40, 114, 117, 108, 101, 115, 32, 40, 41, 32, 40, 40, 95, 32, 97, 41, 32, 97, 41, 32, 40, 40, 95, 32, 53, 41, 32, 54, 41, 32, 40, 40, 95, 32, 97, 32, 98, 41, 32, 98, 41, 41]⟩ : ByteArray), (⟨#[40, 107, 32, 53, 41]⟩ : ByteArray)]]
theorem t5T_tr : Tr (fun m => m_spec_l5Texts m) t5T := Tr.of (fun m => rfl)
theorem t5T_all : Pairs [(t5F0, t5F1), (t5F2, t5F3), (t5F4, t5F5), (t5F6, t5F7), (t5F8, t5F9), (t5F10, t5F11), (t5F12, t5F13), (t5F14, t5F15)] t5T := ⟨_, _, rfl, ⟨_, _, rfl, t5P0, t5P1⟩, ⟨_, _, rfl, ⟨_, _, rfl, t5P2, t5P3⟩, ⟨_, _, rfl, ⟨_, _, rfl, t5P4, t5P5⟩, ⟨_, _, rfl, ⟨_, _, rfl, t5P6, t5P7⟩, ⟨_, _, rfl, ⟨_, _, rfl, t5P8, t5P9⟩, ⟨_, _, rfl, ⟨_, _, rfl, t5P10, t5P11⟩, ⟨_, _, rfl, ⟨_, _, rfl, t5P12, t5P13⟩, ⟨_, _, rfl, ⟨_, _, rfl, t5P14, t5P15⟩, rfl⟩⟩⟩⟩⟩⟩⟩⟩
end Go.Abs
end
section
set_option linter.unusedVariables false
set_option linter.unusedSimpArgs false
namespace Go.Abs
noncomputable def rulesOkB (rules : List Rule) (lits : List Form) : Bool := alls (fun r => ruleOk r lits) rules && (decide ((rules.length : Int) ≤ 9) && litOk lits)
structure DrR (n : Nat) (r : Rule) : Prop where
  p : Dr n r.pattern
  t : Dr n r.template
theorem l5Rules_tr (rules : List Rule) (lits : List Form) (hr : ∀ r ∈ rules, DrR (2 ^ 36) r) (hl : Form.fits lits) (hlb : Form.ws lits ≤ 2 ^ 36) : Tr (fun m => m_spec_l5Rules m rules lits) (rulesOkB rules lits) := by
  refine Tr.eq (fun m => by unfold m_spec_l5Rules; rfl) ?_
  have key := drop_ind rules (fun k zs => (∀ z ∈ zs, z ∈ rules) → Tr (fun m => m_spec_l5Rules_l1 m rules lits (k : Int)) (alls (fun r => ruleOk r lits) zs && (decide ((rules.length : Int) ≤ 9) && litOk lits))) ?_ ?_ 0 (Nat.zero_le _) (fun z hz => by simpa using hz)
  · exact key
  · intro _
    refine Tr.step (fun m => by rw [m_spec_l5Rules_l1, ltN_self, cond_false]) (Tr.step (fun m => by rw [m_spec_l5Rules_j2, cond_false]) ?_)
    rw [alls, Bool.true_and]
    by_cases h9 : (rules.length : Int) ≤ 9
    · rw [decide_eq_true h9, Bool.true_and]
      exact Tr.tt (decide_eq_true (by omega)) (Tr.bind (specLit_tr lits hl hlb) Tr.val)
    · rw [decide_eq_false h9, Bool.false_and]
      exact Tr.ff (decide_eq_false (by omega)) Tr.val
  · intro k x zs hk hx hd ih hz
    have hxr := hr x (hz x (by simp))
    refine Tr.step (fun m => by rw [m_spec_l5Rules_l1, ltN hk, cond_true]) ?_
    by_cases h10 : (k : Int) < 10
    · refine Tr.step (fun m => by rw [m_spec_l5Rules_j2, decide_eq_true h10, cond_true, idx_nat hx, Option.bind_some]) ?_
      have hsr := specRuleValid_tr x lits hxr.p.fit hxr.p.w hxr.t.fit hxr.t.w hl hlb
      have hsr2 : Tr (fun m => m_spec_l5Rule m x lits) (ruleOk x lits) := by
        obtain ⟨n, h⟩ := hsr
        refine ⟨n, fun m hm => ?_⟩
        have := h m hm
        unfold m_spec_RuleValid at this
        show m_spec_l5Rule m x lits = _
        replace this : (m_spec_l5Rule m x lits).bind (fun v1 => some v1) = some (ruleOk x lits) := this
        cases h5 : m_spec_l5Rule m x lits with
        | none => rw [h5] at this; cases this
        | some b => rw [h5] at this; exact this
      refine Tr.bind hsr2 ?_
      rw [alls]
      cases ruleOk x lits with
      | false => exact Tr.tt rfl Tr.val
      | true => exact Tr.ff rfl (Tr.eq (fun m => by rw [w64_in (by omega), succN]) (ih (fun z h => hz z (by simp [h]))))
    · refine Tr.step (fun m => by rw [m_spec_l5Rules_j2, decide_eq_false h10, cond_false]) ?_
      rw [decide_eq_false (show ¬ (rules.length : Int) ≤ 9 by omega), Bool.false_and, Bool.and_false]
      exact Tr.ff (decide_eq_false (by omega)) Tr.val
def ruleOf (x : Form) : Rule := Rule.mk (x.kids.getD 0 form0) (x.kids.getD 1 form0)
def ruleShape (x : Form) : Bool := decide (x.kind = 3) && decide (x.kids.length = 2)
def rulesN : ByteArray := ⟨#[114, 117, 108, 101, 115]⟩
def isRules (f : Form) : Bool := f.valid && (decide (f.kind = 3) && (decide (2 ≤ f.kids.length) && (decide ((f.kids.getD 0 form0).name = rulesN) && decide ((f.kids.getD 1 form0).kind = 3))))
noncomputable def parseR (f : Form) : List Form × List Rule × Bool :=
  bif isRules f then
    bif alls ruleShape (f.kids.drop 2) then
      bif rulesOkB ((f.kids.drop 2).map ruleOf) (f.kids.getD 1 form0).kids then ((f.kids.getD 1 form0).kids, (f.kids.drop 2).map ruleOf, true) else ([], [], false)
    else ([], [], false)
  else ([], [], false)
theorem getD_mem {α : Type} {l : List α} {k : Nat} {d : α} (h : k < l.length) : l[k]? = some (l.getD k d) ∧ l.getD k d ∈ l := by
  have : l[k]? = some (l.getD k d) := by rw [List.getD_eq_getElem?_getD, List.getElem?_eq_getElem h]; rfl
  exact ⟨this, List.mem_of_getElem? this⟩
theorem kid_dr {n : Nat} {f x : Form} (h : Dr n f) (hx : x ∈ f.kids) : Dr n x := ⟨by have := Form.ws_mem hx; have := f.w_kids; have := h.w; omega, Form.fits_mem h.fit.parts.2.2.2 hx⟩
theorem ruleOf_dr {n : Nat} {x : Form} (h : Dr n x) (hs : ruleShape x = true) : DrR n (ruleOf x) := by
  unfold ruleShape at hs
  rw [Bool.and_eq_true, decide_eq_true_eq, decide_eq_true_eq] at hs
  exact ⟨kid_dr h (getD_mem (by omega)).2, kid_dr h (getD_mem (by omega)).2⟩
theorem specParseRules_tr (f : Form) (hf : Dr (2 ^ 30) f) : Tr (fun m => m_spec_ParseRules m f) (parseR f) := by
  have hw := f.w_kids
  have hfw := hf.w
  have hfl := Form.ws_len f.kids
  refine Tr.eq (fun m => by unfold m_spec_ParseRules; rfl) (Tr.bind (specFormValid_tr f hf.fit (by omega)) ?_)
  have no : Tr (fun m => m_spec_ParseRules_j1 m f true) (([] : List Form), ([] : List Rule), false) := Tr.step (fun m => by rw [m_spec_ParseRules_j1]; rfl) Tr.val
  unfold parseR isRules
  cases f.valid with
  | false => exact Tr.tt rfl no
  | true =>
  refine Tr.ff rfl ?_
  by_cases h3 : f.kind = 3
  case neg => rw [decide_eq_false h3]; exact Tr.tt (by simpa using h3) no
  rw [decide_eq_true h3]
  refine Tr.ff (by simpa using h3) ?_
  by_cases h2 : 2 ≤ f.kids.length
  case neg => rw [decide_eq_false h2]; exact Tr.tt (decide_eq_true (by omega)) no
  rw [decide_eq_true h2]
  obtain ⟨g0, m0⟩ := getD_mem (l := f.kids) (k := 0) (d := form0) (by omega)
  obtain ⟨g1, m1⟩ := getD_mem (l := f.kids) (k := 1) (d := form0) (by omega)
  generalize hk0 : f.kids.getD 0 form0 = k0 at g0 m0
  generalize hk1 : f.kids.getD 1 form0 = k1 at g1 m1
  have i0 : idx f.kids 0 = some k0 := idx_nat g0
  have i1 : idx f.kids 1 = some k1 := idx_nat g1
  refine Tr.ff (decide_eq_false (by omega)) (Tr.eq (fun m => by rw [i0, Option.bind_some]) ?_)
  by_cases hn : k0.name = rulesN
  case neg => rw [decide_eq_false hn]; exact Tr.tt (decide_eq_true hn) no
  rw [decide_eq_true hn]
  refine Tr.ff (decide_eq_false (not_not_intro hn)) (Tr.eq (fun m => by rw [i1, Option.bind_some]) ?_)
  by_cases hk : k1.kind = 3
  case neg => rw [decide_eq_false hk]; exact Tr.eq (fun m => by rw [decide_eq_true (show k1.kind ≠ 3 from hk)]) no
  rw [decide_eq_true hk]
  refine Tr.step (fun m => by rw [m_spec_ParseRules_j1, decide_eq_false (show ¬ k1.kind ≠ 3 by simp [hk]), cond_false]) ?_
  rw [Bool.and_true, Bool.and_true, Bool.and_true, Bool.and_true, cond_true]
  have d1 := kid_dr hf m1
  have d1w := d1.w
  have k1w := k1.w_kids
  have k1l := Form.ws_len k1.kids
  -- what comes behind the literals
  have tail : Tr (fun m => m_spec_ParseRules_j2 m f k1.kids) (bif alls ruleShape (f.kids.drop 2) then
      bif rulesOkB ((f.kids.drop 2).map ruleOf) k1.kids then (k1.kids, (f.kids.drop 2).map ruleOf, true) else ([], [], false)
    else ([], [], false)) := by
    refine Tr.step (fun m => by rw [m_spec_ParseRules_j2]) ?_
    have key : ∀ (zs : List Form) (k : Nat) (rs : List Rule), f.kids.drop k = zs → rs.length ≤ k → alls ruleShape zs = alls ruleShape (f.kids.drop 2) → (alls ruleShape zs = true → rs ++ zs.map ruleOf = (f.kids.drop 2).map ruleOf) → Tr (fun m => m_spec_ParseRules_l5 m f k1.kids rs (k : Int)) (bif alls ruleShape (f.kids.drop 2) then
      bif rulesOkB ((f.kids.drop 2).map ruleOf) k1.kids then (k1.kids, (f.kids.drop 2).map ruleOf, true) else ([], [], false)
    else ([], [], false)) := by
      intro zs
      induction zs with
      | nil =>
        intro k rs hd hr ha he
        have hk' : ¬ k < f.kids.length := by have := congrArg List.length hd; rw [List.length_drop] at this; simp at this; omega
        rw [← ha]
        have he2 := he rfl
        rw [List.map_nil, List.append_nil] at he2
        rw [alls, cond_true]
        refine Tr.step (fun m => by rw [m_spec_ParseRules_l5, geN hk', cond_false]) (Tr.step (fun m => by rw [m_spec_ParseRules_j4]) ?_)
        rw [he2]
        have hall : alls ruleShape (f.kids.drop 2) = true := by rw [← ha]; rfl
        refine Tr.bind (l5Rules_tr _ k1.kids (fun r hr => ?_) d1.fit.parts.2.2.2 (by omega)) ?_
        · obtain ⟨x, hx, rfl⟩ := List.mem_map.1 hr
          have := ruleOf_dr (kid_dr hf (List.mem_of_mem_drop hx)) (alls_iff.1 hall x hx)
          exact ⟨this.p.mono (by omega), this.t.mono (by omega)⟩
        · cases rulesOkB ((f.kids.drop 2).map ruleOf) k1.kids with
          | false => exact Tr.tt rfl Tr.val
          | true => exact Tr.ff rfl Tr.val
      | cons x xs ih =>
        intro k rs hd hr ha he
        have hk' : k < f.kids.length := by have := congrArg List.length hd; rw [List.length_drop] at this; simp at this; omega
        have hx : f.kids[k]? = some x := by
          have := congrArg (fun l => l[0]?) hd
          simpa using this
        have hd2 : f.kids.drop (k + 1) = xs := by rw [← List.drop_drop, hd]; rfl
        have hxm := List.mem_of_getElem? hx
        rw [alls] at ha he
        have j6 : ∀ b : Bool, ruleShape x = !b → Tr (fun m => m_spec_ParseRules_j6 m f k1.kids rs (k : Int) b) (bif alls ruleShape (f.kids.drop 2) then
      bif rulesOkB ((f.kids.drop 2).map ruleOf) k1.kids then (k1.kids, (f.kids.drop 2).map ruleOf, true) else ([], [], false)
    else ([], [], false)) := by
          intro b hb
          cases b with
          | true =>
            rw [hb, Bool.not_true, Bool.false_and] at ha
            rw [← ha]
            exact Tr.step (fun m => by rw [m_spec_ParseRules_j6, cond_true]; rfl) Tr.val
          | false =>
            rw [hb, Bool.not_false, Bool.true_and] at ha he
            have hs2 : ruleShape x = true := hb
            have hs := hs2
            unfold ruleShape at hs
            rw [Bool.and_eq_true, decide_eq_true_eq, decide_eq_true_eq] at hs
            obtain ⟨e0, _⟩ := getD_mem (l := x.kids) (k := 0) (d := form0) (by omega)
            obtain ⟨e1, _⟩ := getD_mem (l := x.kids) (k := 1) (d := form0) (by omega)
            have q0 : idx x.kids 0 = some (x.kids.getD 0 form0) := idx_nat e0
            have q1 : idx x.kids 1 = some (x.kids.getD 1 form0) := idx_nat e1
            have dr := ruleOf_dr (kid_dr hf hxm) hs2
            refine Tr.step (fun m => by rw [m_spec_ParseRules_j6, cond_false, idx_nat hx, Option.bind_some, q0, Option.bind_some]) ?_
            refine Tr.bind (l1Copy_tr _ _ (Nat.le_refl _) (by have h := dr.p.w; have h2 : (x.kids.getD 0 form0).w ≤ 2 ^ 30 := h; omega)) (Tr.eq (fun m => by rw [Option.bind_some, q1, Option.bind_some]) ?_)
            refine Tr.bind (l1Copy_tr _ _ (Nat.le_refl _) (by have h := dr.t.w; have h2 : (x.kids.getD 1 form0).w ≤ 2 ^ 30 := h; omega)) ?_
            refine Tr.chk (decide_eq_true (by simp; omega)) (Tr.eq (fun m => by rw [succN]; rfl) (ih (k + 1) (rs ++ [ruleOf x]) hd2 (by simp; omega) ha (fun h => ?_)))
            have := he h
            rw [List.map_cons] at this
            rw [List.append_assoc]
            exact this
        refine Tr.step (fun m => by rw [m_spec_ParseRules_l5, ltN hk', cond_true, idx_nat hx, Option.bind_some, Option.bind_some]) ?_
        unfold ruleShape at j6
        by_cases h3 : x.kind = 3
        · refine Tr.ff (by simpa using h3) (j6 _ ?_)
          rw [decide_eq_true h3, Bool.true_and]
          by_cases h2 : x.kids.length = 2
          · rw [decide_eq_true h2, decide_eq_false (by omega)]; rfl
          · rw [decide_eq_false h2, decide_eq_true (by omega)]; rfl
        · refine Tr.tt (by simpa using h3) (j6 true ?_)
          rw [decide_eq_false h3]; rfl
    exact key (f.kids.drop 2) 2 [] rfl (by simp) rfl (fun _ => by simp)
  have lits := drop_ind k1.kids (fun k zs => ∀ g : List Form, g ++ zs = k1.kids → g.length = k → Tr (fun m => m_spec_ParseRules_l3 m f g (k : Int)) (bif alls ruleShape (f.kids.drop 2) then
      bif rulesOkB ((f.kids.drop 2).map ruleOf) k1.kids then (k1.kids, (f.kids.drop 2).map ruleOf, true) else ([], [], false)
    else ([], [], false))) ?_ ?_ 0 (Nat.zero_le _) [] (by simp) rfl
  · exact lits
  · intro g hg _
    rw [List.append_nil] at hg
    subst hg
    exact Tr.step (fun m => by rw [m_spec_ParseRules_l3, i1, Option.bind_some, ltN_self, cond_false]) tail
  · intro k x zs hk' hx hd ih g hg hgl
    have hxm := List.mem_of_getElem? hx
    have := Form.ws_mem hxm
    refine Tr.step (fun m => by rw [m_spec_ParseRules_l3, i1, Option.bind_some, ltN hk', cond_true, Option.bind_some, idx_nat hx, Option.bind_some, succN]) ?_
    refine Tr.bind (l1Copy_tr _ x (Nat.le_refl _) (by omega)) (Tr.chk (decide_eq_true (by simp; omega)) (ih (g ++ [x]) (by rw [List.append_assoc]; exact hg) (by simp [hgl])))
end Go.Abs
end
section
set_option linter.unusedVariables false
set_option linter.unusedSimpArgs false
namespace Go.Abs
structure Rule.fit (r : Rule) : Prop where
  p : r.pattern.fit
  t : r.template.fit
structure Macro.fit (m : Macro) : Prop where
  ll : m.literals.length ≤ 9223372036854775807
  l : Form.fits m.literals
  rl : m.rules.length ≤ 9223372036854775807
  r : ∀ r ∈ m.rules, r.fit
structure Expansion.fit (x : Expansion) : Prop where
  bl : x.binds.length ≤ 9223372036854775807
  b : ∀ b ∈ x.binds, b.fit
  ml : x.macros.length ≤ 9223372036854775807
  m : ∀ m ∈ x.macros, m.fit
end Go.Abs
end
section
set_option linter.unusedVariables false
set_option linter.unusedSimpArgs false
namespace Go.Abs
theorem fnd_any {α : Type} {D : α → Bool} {l : List α} {k : Nat} : decide (0 ≤ fnd D l k) = anys D l := by
  rw [Bool.eq_iff_iff, decide_eq_true_iff, fnd_ge, anys_iff]
theorem not_anys {α : Type} {D : α → Bool} : ∀ {l : List α}, (!anys (fun x => !D x) l) = alls D l
  | [] => rfl
  | x :: xs => by rw [anys, alls, Bool.not_or, Bool.not_not, not_anys]
theorem rulesOk_tr (rules : List Rule) (lits : List Form) (hr : ∀ r ∈ rules, r.fit ∧ r.pattern.w ≤ 2 ^ 36 ∧ r.template.w ≤ 2 ^ 36) (hl : Form.fits lits) : Tr (fun m => m_impl_rulesOk m rules lits) (rulesOkB rules lits) := by
  refine Tr.eq (fun m => by unfold m_impl_rulesOk; rfl) ?_
  unfold rulesOkB
  by_cases h9 : (rules.length : Int) ≤ 9
  case neg => rw [decide_eq_false h9, Bool.false_and, Bool.and_false]; exact Tr.ff rfl Tr.val
  rw [decide_eq_true h9, Bool.true_and]
  refine Tr.tt rfl (Tr.bind (implLit_tr lits hl) ?_)
  cases litOk lits with
  | false => rw [Bool.and_false]; exact Tr.ff rfl Tr.val
  | true =>
  rw [Bool.and_true]
  refine Tr.tt rfl (Tr.bind (v := anys (fun r => !ruleOk r lits) rules) ?_ ?_)
  · refine Tr.eq (fun m => by unfold m_slices_ContainsFunc_Rule_rulesOk_1; rfl) (Tr.bind (v := fnd (fun r => !ruleOk r lits) rules 0) ?_ (Tr.of fun m => by rw [fnd_any]))
    refine Tr.eq (fun m => by unfold m_slices_IndexFunc_Rule_rulesOk_1; rfl) ?_
    refine loop_find (L := fun m j => m_slices_IndexFunc_Rule_rulesOk_1_l1 m rules lits j) (E := fun m y => m_impl_rulesOk_1 m y lits) (fun m j => by rw [m_slices_IndexFunc_Rule_rulesOk_1_l1]) (fun y hy => ?_)
    have h := hr y hy
    exact Tr.eq (fun m => by unfold m_impl_rulesOk_1; rfl) (Tr.bind (implRuleValid_tr y lits h.1.p h.2.1 h.1.t h.2.2 hl) Tr.val)
  · rw [show (fun m => some (!anys (fun r => !ruleOk r lits) rules)) = fun (m : Nat) => some (alls (fun r => ruleOk r lits) rules) from funext fun _ => by rw [not_anys]]
    exact Tr.val
end Go.Abs
end
section
set_option linter.unusedVariables false
set_option linter.unusedSimpArgs false
namespace Go.Abs
theorem isOk_mono : ∀ (n : Nat) (f : Form), f.w ≤ n → ∀ d e, d ≤ e → f.isOk d = true → f.isOk e = true := by
  intro n
  induction n with
  | zero => intro f h; have := f.w_kids; omega
  | succ n ih =>
    intro f hf d e hde h
    have hw := f.w_kids
    rw [Form.isOk_eq] at h ⊢
    by_cases hd : d = 0
    · rw [decide_eq_true hd] at h; cases h
    rw [decide_eq_false hd, cond_false] at h
    rw [decide_eq_false (show ¬ e = 0 by omega), cond_false]
    cases h1 : decide (f.kind = 1) with
    | true => rw [h1, cond_true] at h; exact h
    | false =>
    rw [h1, cond_false] at h
    rw [cond_false]
    cases h2 : decide (f.kind = 2) with
    | true => rw [h2, cond_true] at h; exact h
    | false =>
    rw [h2, cond_false] at h
    rw [cond_false]
    simp only [Bool.and_eq_true] at h ⊢
    obtain ⟨a, b, c, k, g⟩ := h
    refine ⟨a, b, c, k, ?_⟩
    rw [alls_iff] at g ⊢
    exact fun x hx => ih x (by have := Form.ws_mem hx; omega) (d - 1) (e - 1) (by omega) (g x hx)
theorem cnts_mem : ∀ {l : List Form} {x : Form}, x ∈ l → x.cnt ≤ Form.cnts l
  | y :: ys, x, h => by
    rw [Form.cnts]
    rcases List.mem_cons.1 h with rfl | h
    · omega
    · have := cnts_mem h; omega
theorem valid_kid {f x : Form} (h : f.valid = true) (hx : x ∈ f.kids) : x.valid = true := by
  unfold Form.valid at h ⊢
  rw [Bool.and_eq_true, decide_eq_true_eq] at h ⊢
  have := (isOk_kids h.1).2 x hx
  have h2 := cnts_mem hx
  have h3 := f.cnt_eq
  exact ⟨isOk_mono _ x (Nat.le_refl _) (40 - 1) 40 (by omega) this, by omega⟩
def HitD : Nat → Hit → Prop
  | 0, h => h.depth = 0 ∧ h.one.valid = true ∧ h.many = []
  | d + 1, h => h.depth = (d : Int) + 1 ∧ h.one = form0 ∧ h.many.length ≤ 400 ∧ ∀ x ∈ h.many, x.name = h.name ∧ HitD d x
def nameG (f : Form) : Bool := isNm f && (!decide (f.name = dotsN) && !decide (f.name = underN))
theorem HitD.depth {d : Nat} {h : Hit} (hd : HitD d h) : h.depth = (d : Int) := by
  cases d with
  | zero => exact hd.1
  | succ d => rw [hd.1]; omega
theorem HitD.isOk : ∀ (d : Nat) (h : Hit), d ≤ 3 → HitD d h → nameG h.name = true → h.isOk = true
  | 0, h, hd, hh, hn => by
    obtain ⟨h1, h2, h3⟩ := hh
    unfold nameG at hn
    simp only [Bool.and_eq_true] at hn
    rw [Hit.isOk_eq, hn.1, hn.2.1, hn.2.2, h1, h2, h3]; rfl
  | d + 1, h, hd, hh, hn => by
    obtain ⟨h1, h2, h3, h4⟩ := hh
    have hn0 := hn
    unfold nameG at hn
    simp only [Bool.and_eq_true] at hn
    rw [Hit.isOk_eq, hn.1, hn.2.1, hn.2.2, h1, h2, same_self, decide_eq_false (show ¬ (d : Int) + 1 = 0 by omega), decide_eq_true (show (0 : Int) ≤ (d : Int) + 1 by omega), decide_eq_true (show (d : Int) + 1 ≤ 3 by omega), decide_eq_true (show (h.many.length : Int) ≤ 400 by omega)]
    simp only [Bool.true_and, cond_false]
    rw [alls_iff]
    intro x hx
    obtain ⟨e1, e2⟩ := h4 x hx
    rw [e1, same_self, e2.depth, decide_eq_true (show (d : Int) = (d : Int) + 1 - 1 by omega), HitD.isOk d x (by omega) e2 (by rw [e1]; exact hn0)]
    rfl
end Go.Abs
end
section
set_option linter.unusedVariables false
set_option linter.unusedSimpArgs false
namespace Go.Abs
theorem kind_of_name {x : Form} (h : x.valid = true) (hn : x.name ≠ (⟨#[]⟩ : ByteArray)) : x.kind = 1 := by
  unfold Form.valid at h
  rw [Bool.and_eq_true, Form.isOk_eq] at h
  by_cases h1 : x.kind = 1
  · exact h1
  exfalso
  have := h.1
  rw [decide_eq_false h1, decide_eq_false hn] at this
  simp at this
theorem sub_drop {α : Type} {l : List α} {k : Nat} (h : k ≤ l.length) : sub l (k : Int) (l.length : Int) = some (l.drop k) := by
  unfold sub
  rw [show (decide ((0 : Int) ≤ (k : Int)) && decide ((k : Int) ≤ l.length) && decide ((l.length : Int) ≤ l.length)) = true by simp; omega, cond_true]
  simp
theorem implParseRules_tr (f : Form) (hf : Dr (2 ^ 30) f) : Tr (fun m => m_impl_ParseRules m f) (parseR f) := by
  have hw := f.w_kids
  have hfw := hf.w
  have hfl := Form.ws_len f.kids
  refine Tr.eq (fun m => by unfold m_impl_ParseRules; rfl) (Tr.bind (implFormValid_tr f hf.fit) ?_)
  have no : Tr (fun m => m_impl_ParseRules_j1 m f true) (([] : List Form), ([] : List Rule), false) := Tr.step (fun m => by rw [m_impl_ParseRules_j1]; rfl) Tr.val
  unfold parseR isRules
  cases hfv : f.valid with
  | false => exact Tr.tt rfl no
  | true =>
  refine Tr.ff rfl ?_
  by_cases h3 : f.kind = 3
  case neg => rw [decide_eq_false h3]; exact Tr.tt (by simpa using h3) no
  rw [decide_eq_true h3]
  refine Tr.ff (by simpa using h3) ?_
  by_cases h2 : 2 ≤ f.kids.length
  case neg => rw [decide_eq_false h2]; exact Tr.tt (decide_eq_true (by omega)) no
  rw [decide_eq_true h2]
  obtain ⟨g0, m0⟩ := getD_mem (l := f.kids) (k := 0) (d := form0) (by omega)
  obtain ⟨g1, m1⟩ := getD_mem (l := f.kids) (k := 1) (d := form0) (by omega)
  generalize hk0 : f.kids.getD 0 form0 = k0 at g0 m0
  generalize hk1 : f.kids.getD 1 form0 = k1 at g1 m1
  have i0 : idx f.kids 0 = some k0 := idx_nat g0
  have i1 : idx f.kids 1 = some k1 := idx_nat g1
  refine Tr.ff (decide_eq_false (by omega)) (Tr.eq (fun m => by rw [i0, Option.bind_some]) ?_)
  refine Tr.bind (named_tr _ _) ?_
  have hkn : (decide (k0.kind = 1) && decide (k0.name = rulesN)) = decide (k0.name = rulesN) := by
    by_cases hn : k0.name = rulesN
    · rw [decide_eq_true (kind_of_name (valid_kid hfv m0) (by rw [hn]; decide)), Bool.true_and]
    · rw [decide_eq_false hn, Bool.and_false]
  show Tr (fun m => bif !(decide (k0.kind = 1) && decide (k0.name = rulesN)) then _ else _) _
  rw [hkn]
  by_cases hn : k0.name = rulesN
  case neg => rw [decide_eq_false hn]; exact Tr.tt rfl no
  rw [decide_eq_true hn]
  refine Tr.ff rfl (Tr.eq (fun m => by rw [i1, Option.bind_some]) ?_)
  by_cases hk : k1.kind = 3
  case neg => rw [decide_eq_false hk]; exact Tr.eq (fun m => by rw [decide_eq_true (show k1.kind ≠ 3 from hk)]) no
  rw [decide_eq_true hk]
  refine Tr.step (fun m => by rw [m_impl_ParseRules_j1, decide_eq_false (show ¬ k1.kind ≠ 3 by simp [hk]), cond_false, i1, Option.bind_some]) ?_
  rw [Bool.and_true, Bool.and_true, Bool.and_true, Bool.and_true, cond_true]
  have d1 := kid_dr hf m1
  have d1w := d1.w
  have k1w := k1.w_kids
  have k1l := Form.ws_len k1.kids
  have hdl : (f.kids.drop 2).length + 2 = f.kids.length := by rw [List.length_drop]; omega
  -- what comes behind the literals
  have tail : Tr (fun m => m_impl_ParseRules_j2 m f k1.kids) (bif alls ruleShape (f.kids.drop 2) then
      bif rulesOkB ((f.kids.drop 2).map ruleOf) k1.kids then (k1.kids, (f.kids.drop 2).map ruleOf, true) else ([], [], false)
    else ([], [], false)) := by
    refine Tr.step (fun m => by rw [m_impl_ParseRules_j2, show (2 : Int) = ((2 : Nat) : Int) from rfl, sub_drop h2, Option.bind_some]) ?_
    have hmem : ∀ x ∈ f.kids.drop 2, x ∈ f.kids := fun x hx => List.mem_of_mem_drop hx
    generalize f.kids.drop 2 = L at hdl hmem
    have key := drop_ind L (fun k zs => ∀ rs : List Rule, rs.length = k → alls ruleShape zs = alls ruleShape L → (alls ruleShape zs = true → rs ++ zs.map ruleOf = L.map ruleOf) → Tr (fun m => m_impl_ParseRules_l5 m k1.kids L rs (k : Int)) (bif alls ruleShape L then
      bif rulesOkB (L.map ruleOf) k1.kids then (k1.kids, L.map ruleOf, true) else ([], [], false)
    else ([], [], false))) ?_ ?_ 0 (Nat.zero_le _) [] rfl (by simp) (fun _ => by simp)
    · exact key
    · intro rs hr ha he
      rw [← ha]
      have he2 := he rfl
      rw [List.map_nil, List.append_nil] at he2
      rw [alls, cond_true]
      refine Tr.step (fun m => by rw [m_impl_ParseRules_l5, ltN_self, cond_false]) (Tr.step (fun m => by rw [m_impl_ParseRules_j4]) ?_)
      rw [he2]
      have hall : alls ruleShape L = true := by rw [← ha]; rfl
      refine Tr.bind (rulesOk_tr _ k1.kids (fun r hr => ?_) d1.fit.parts.2.2.2) ?_
      · obtain ⟨x, hx, rfl⟩ := List.mem_map.1 hr
        have := ruleOf_dr (kid_dr hf (hmem x hx)) (alls_iff.1 hall x hx)
        exact ⟨⟨this.p.fit, this.t.fit⟩, by have := this.p.w; omega, by have := this.t.w; omega⟩
      · cases rulesOkB (L.map ruleOf) k1.kids with
        | false => exact Tr.tt rfl Tr.val
        | true => exact Tr.ff rfl Tr.val
    · intro k x zs hk' hx hd ih rs hr ha he
      have hxm := hmem x (List.mem_of_getElem? hx)
      rw [alls] at ha he
      have j6 : ∀ b : Bool, ruleShape x = !b → Tr (fun m => m_impl_ParseRules_j6 m k1.kids L rs (k : Int) x b) (bif alls ruleShape L then
      bif rulesOkB (L.map ruleOf) k1.kids then (k1.kids, L.map ruleOf, true) else ([], [], false)
    else ([], [], false)) := by
        intro b hb
        cases b with
        | true =>
          rw [hb, Bool.not_true, Bool.false_and] at ha
          rw [← ha]
          exact Tr.step (fun m => by rw [m_impl_ParseRules_j6, cond_true]; rfl) Tr.val
        | false =>
          rw [hb, Bool.not_false, Bool.true_and] at ha he
          have hs2 : ruleShape x = true := hb
          have hs := hs2
          unfold ruleShape at hs
          rw [Bool.and_eq_true, decide_eq_true_eq, decide_eq_true_eq] at hs
          obtain ⟨e0, _⟩ := getD_mem (l := x.kids) (k := 0) (d := form0) (by omega)
          obtain ⟨e1, _⟩ := getD_mem (l := x.kids) (k := 1) (d := form0) (by omega)
          have q0 : idx x.kids 0 = some (x.kids.getD 0 form0) := idx_nat e0
          have q1 : idx x.kids 1 = some (x.kids.getD 1 form0) := idx_nat e1
          have dr := ruleOf_dr (kid_dr hf hxm) hs2
          refine Tr.step (fun m => by rw [m_impl_ParseRules_j6, cond_false, q0, Option.bind_some]) ?_
          refine Tr.bind (copyForm_tr _ (by have h := dr.p.w; have h2 : (x.kids.getD 0 form0).w ≤ 2 ^ 30 := h; omega)) (Tr.eq (fun m => by rw [q1, Option.bind_some]) ?_)
          refine Tr.bind (copyForm_tr _ (by have h := dr.t.w; have h2 : (x.kids.getD 1 form0).w ≤ 2 ^ 30 := h; omega)) ?_
          refine Tr.chk (decide_eq_true (by simp; omega)) (Tr.eq (fun m => by rw [succN]; rfl) (ih (rs ++ [ruleOf x]) (by simp [hr]) ha (fun h => ?_)))
          have := he h
          rw [List.map_cons] at this
          rw [List.append_assoc]
          exact this
      refine Tr.step (fun m => by rw [m_impl_ParseRules_l5, ltN hk', cond_true, idx_nat hx, Option.bind_some]) ?_
      unfold ruleShape at j6
      by_cases h3 : x.kind = 3
      · refine Tr.ff (by simpa using h3) (j6 _ ?_)
        rw [decide_eq_true h3, Bool.true_and]
        by_cases h2 : x.kids.length = 2
        · rw [decide_eq_true h2, decide_eq_false (by omega)]; rfl
        · rw [decide_eq_false h2, decide_eq_true (by omega)]; rfl
      · refine Tr.tt (by simpa using h3) (j6 true ?_)
        rw [decide_eq_false h3]; rfl
  have lits := drop_ind k1.kids (fun k zs => ∀ g : List Form, g ++ zs = k1.kids → g.length = k → Tr (fun m => m_impl_ParseRules_l3 m f k1 g (k : Int)) (bif alls ruleShape (f.kids.drop 2) then
      bif rulesOkB ((f.kids.drop 2).map ruleOf) k1.kids then (k1.kids, (f.kids.drop 2).map ruleOf, true) else ([], [], false)
    else ([], [], false))) ?_ ?_ 0 (Nat.zero_le _) [] (by simp) rfl
  · exact lits
  · intro g hg _
    rw [List.append_nil] at hg
    subst hg
    exact Tr.step (fun m => by rw [m_impl_ParseRules_l3, ltN_self, cond_false]) tail
  · intro k x zs hk' hx hd ih g hg hgl
    have hxm := List.mem_of_getElem? hx
    have := Form.ws_mem hxm
    refine Tr.step (fun m => by rw [m_impl_ParseRules_l3, ltN hk', cond_true, idx_nat hx, Option.bind_some, succN]) ?_
    refine Tr.bind (copyForm_tr x (by omega)) (Tr.chk (decide_eq_true (by simp; omega)) (ih (g ++ [x]) (by rw [List.append_assoc]; exact hg) (by simp [hgl])))
theorem DrawParseRules_tq (code : List Int) (hc : ∀ x ∈ code, 0 ≤ x ∧ x < 256) : TQ (fun m => m_spec_DrawParseRules m code) (fun f => Dr 400 f) := by
  refine TQ.eq (fun m => by unfold m_spec_DrawParseRules; rfl) ?_
  refine TQ.bind (open_tq code hc) (fun o ho => TQ.ev t5T_tr (TQ.bind (pick_tq o _ _ ho (by omega)) (fun v hv => ?_)))
  obtain ⟨h1, _, h2, _⟩ := hv
  obtain ⟨h2, h3⟩ := h2 (by decide)
  obtain ⟨p, hp, a, b, hi, pa, pb⟩ := pairs_tq t5T_all h2 h3
  refine TQ.at hi (TQ.at (idx2_0 _ _) (TQ.ev pa.tr (TQ.bind (pick_tq _ 3 _ h1 (by omega)) (fun w hw => ?_))))
  have da := pa.dr
  refine TQ.cond (fun _ => ?_) (fun _ => TQ.val (da.mono (by omega)))
  exact mutate2_tq _ _ _ hw.1 (da.mono (by omega)) (by omega) (g := fun f _ _ => some f) (fun f o' _ hf => TQ.val (hf.mono (by have := da.w; omega)))
theorem FnParseRules_law (code : List Int) (hc : ∀ x ∈ code, 0 ≤ x ∧ x < 256) : TQ (fun m => m_laws_FnParseRules m code) (fun r => r = true) := by
  refine TQ.eq (fun m => by unfold m_laws_FnParseRules; rfl) (TQ.cond (fun _ => TQ.val rfl) (fun _ => TQ.bind (DrawParseRules_tq code hc) (fun f hf => ?_)))
  have hf3 : Dr (2 ^ 30) f := hf.mono (by omega)
  refine TQ.ev (implParseRules_tr f hf3) (TQ.ev (specParseRules_tr f hf3) (TQ.ev (mxForms_tr _ _) ?_))
  rw [same_self]
  refine TQ.eq (fun m => by rw [Bool.not_true, cond_false, decide_eq_false (fun h => h rfl), cond_false, decide_eq_false (fun h => h rfl), cond_false]) ?_
  have no : ∀ v : List Form × List Rule × Bool, TQ (fun m => m_laws_FnParseRules_j1 m f v v true) (fun r => r = true) := by
    intro v
    refine TQ.step (fun m => by rw [m_laws_FnParseRules_j1, cond_true]) (TQ.ev (mxForms_tr _ _) ?_)
    rw [same_self]
    exact TQ.eq (fun m => by rw [cond_true, decide_eq_true rfl, cond_true]) (TQ.step (fun m => by rw [m_laws_FnParseRules_j2, decide_eq_true rfl]) (TQ.val rfl))
  have hw := f.w_kids
  have hfw := hf.w
  have hfl := Form.ws_len f.kids
  unfold parseR
  cases h1 : isRules f with
  | false => exact no _
  | true =>
  rw [cond_true]
  cases h2 : alls ruleShape (f.kids.drop 2) with
  | false => exact no _
  | true =>
  rw [cond_true]
  cases h4 : rulesOkB ((f.kids.drop 2).map ruleOf) (f.kids.getD 1 form0).kids with
  | false => exact no _
  | true =>
  rw [cond_true]
  have hl2 : 2 ≤ f.kids.length := by
    unfold isRules at h1
    simp only [Bool.and_eq_true, decide_eq_true_eq] at h1
    exact h1.2.2.1
  obtain ⟨g1, m1⟩ := getD_mem (l := f.kids) (k := 1) (d := form0) (by omega)
  have i1 : idx f.kids 1 = some (f.kids.getD 1 form0) := idx_nat g1
  have d1 := kid_dr hf m1
  have hok : alls (fun r => ruleOk r (f.kids.getD 1 form0).kids) ((f.kids.drop 2).map ruleOf) = true := by
    unfold rulesOkB at h4
    rw [Bool.and_eq_true] at h4
    exact h4.1
  have hlen : ((f.kids.drop 2).map ruleOf).length + 2 = f.kids.length := by rw [List.length_map, List.length_drop]; omega
  have hR : ∀ k r, ((f.kids.drop 2).map ruleOf)[k]? = some r → ∃ x, f.kids[k + 2]? = some x ∧ r = ruleOf x ∧ ruleShape x = true := by
    intro k r h
    rw [List.getElem?_map, List.getElem?_drop] at h
    cases hx : f.kids[2 + k]? with
    | none => rw [hx] at h; cases h
    | some x =>
      rw [hx] at h
      refine ⟨x, by rw [Nat.add_comm]; exact hx, (Option.some.inj h).symm, alls_iff.1 h2 x ?_⟩
      exact List.mem_of_getElem? (i := k) (by rw [List.getElem?_drop]; exact hx)
  generalize (f.kids.drop 2).map ruleOf = R at hlen hR hok
  refine TQ.step (fun m => by rw [m_laws_FnParseRules_j1, Bool.not_true, cond_false]) ?_
  have key := drop_ind R (fun k zs => TQ (fun m => m_laws_FnParseRules_l4 m f ((f.kids.getD 1 form0).kids, R, true) (k : Int)) (fun r => r = true)) ?_ ?_ 0 (Nat.zero_le _)
  · exact key
  · refine TQ.step (fun m => by rw [m_laws_FnParseRules_l4, ltN_self, cond_false]) (TQ.step (fun m => by rw [m_laws_FnParseRules_j3, w64_in (by omega), decide_eq_true (show (R.length : Int) = (f.kids.length : Int) - 2 by omega), cond_true, i1, Option.bind_some]) ?_)
    refine TQ.ev (mxForms_tr _ _) ?_
    rw [same_self]; exact TQ.val rfl
  · intro k r zs hk hr hd ih
    obtain ⟨x, hx, rfl, hs⟩ := hR k r hr
    have hxm := List.mem_of_getElem? hx
    have dr := ruleOf_dr (kid_dr hf hxm) hs
    unfold ruleShape at hs
    rw [Bool.and_eq_true, decide_eq_true_eq, decide_eq_true_eq] at hs
    obtain ⟨e0, _⟩ := getD_mem (l := x.kids) (k := 0) (d := form0) (by omega)
    obtain ⟨e1, _⟩ := getD_mem (l := x.kids) (k := 1) (d := form0) (by omega)
    have q0 : idx x.kids 0 = some (x.kids.getD 0 form0) := idx_nat e0
    have q1 : idx x.kids 1 = some (x.kids.getD 1 form0) := idx_nat e1
    have hi2 : w64 ((k : Int) + 2) = ((k + 2 : Nat) : Int) := by rw [w64_in (by omega)]; rfl
    refine TQ.step (fun m => by rw [m_laws_FnParseRules_l4, ltN hk, cond_true, idx_nat hr, Option.bind_some, hi2, Option.bind_some, idx_nat hx, Option.bind_some, q0, Option.bind_some, succN]) ?_
    refine TQ.ev (implRuleValid_tr (ruleOf x) _ dr.p.fit (by have := dr.p.w; omega) dr.t.fit (by have := dr.t.w; omega) d1.fit.parts.2.2.2) ?_
    rw [alls_iff.1 hok (ruleOf x) (List.mem_of_getElem? hr)]
    refine TQ.eq (fun m => by rw [Bool.not_true, cond_false]) (TQ.ev (implFormSame_tr _ _) ?_)
    rw [show same (ruleOf x).pattern (x.kids.getD 0 form0) = true from same_self _]
    refine TQ.eq (fun m => by rw [Bool.not_true, cond_false, Option.bind_some, Option.bind_some, q1, Option.bind_some]) (TQ.ev (implFormSame_tr _ _) ?_)
    rw [show same (ruleOf x).template (x.kids.getD 1 form0) = true from same_self _]
    exact TQ.eq (fun m => by rw [Bool.not_true, cond_false]) ih
end Go.Abs
end
