/- A part of the proof: what the functions that the law calls answer, as pure values. -/
import Derived.KernelRfl
import Derived.Test.YtgicgbokgmmgdaaK29380fbb4cbe
import Derived.Test.YtgicgbokgmmgdaaK8e6d663d8cb9
import Derived.Test.YtgicgbokgmmgdaaK99a6bc016170
import Derived.Test.YtgicgbokgmmgdaaKa9943be2a7cc
set_option linter.unusedSimpArgs false
set_option linter.unusedVariables false
section
set_option linter.unusedVariables false
set_option linter.unusedSimpArgs false
namespace Go.Abs
theorem l1Copy_tr : ∀ (n : Nat) (f : Form), f.w ≤ n → f.w ≤ 2 ^ 36 → Tr (fun m => m_spec_l1Copy m f) f := by
  intro n
  induction n with
  | zero => intro f h _; have := f.w_kids; omega
  | succ n ih =>
    intro f h hb
    have hw := f.w_kids
    have hl := Form.ws_len f.kids
    refine Tr.step (fun m => by rw [m_spec_l1Copy]) ?_
    refine Tr.chk (by simp; omega) ?_
    have key := drop_ind f.kids (fun k ys => ∀ acc : List Form, acc.length = k → Tr (fun m => m_spec_l1Copy_l1 m f (k : Int) acc) (Form.mk f.kind f.name f.n f.scopes (acc ++ ys))) ?_ ?_ 0 (Nat.zero_le _) [] rfl
    · rw [List.drop_zero, List.nil_append] at key
      obtain ⟨a, b, c, d, e⟩ := f
      exact key
    · intro acc _
      refine Tr.step (fun m => by rw [m_spec_l1Copy_l1, ltN_self]) ?_
      rw [List.append_nil]; exact Tr.val
    · intro k x xs hk hx hd ihk acc hacc
      have hmem : x ∈ f.kids := List.mem_of_getElem? hx
      have hxw := Form.ws_mem hmem
      refine Tr.step (fun m => by rw [m_spec_l1Copy_l1, ltN hk, idx_nat hx, succN]) ?_
      refine Tr.bind (ih x (by omega) (by omega)) ?_
      refine Tr.chk (by simp; omega) ?_
      have := ihk (acc ++ [x]) (by simp; exact hacc)
      rwa [List.append_assoc] at this
theorem Tr.add {α : Type} {F : Nat → Option α} {v : α} (n : Nat) (h : ∀ k, F (k + n) = some v) : Tr F v := ⟨n, fun m hm => by
  have := h (m - n)
  rwa [Nat.sub_add_cancel hm] at this⟩
theorem Form.ws_set : ∀ (l : List Form) (i : Nat) (x : Form) (B : Nat), (∀ y, l[i]? = some y → x.w ≤ y.w + B) → Form.ws (l.set i x) ≤ Form.ws l + B
  | [], i, x, B, _ => by simp [Form.ws]
  | y :: l, 0, x, B, h => by
    have := h y rfl
    rw [List.set_cons_zero, Form.ws, Form.ws]; omega
  | y :: l, i + 1, x, B, h => by
    have := Form.ws_set l i x B (fun z hz => h z (by simpa using hz))
    rw [List.set_cons_succ, Form.ws, Form.ws]; omega
theorem Form.fits_set : ∀ (l : List Form) (i : Nat) (x : Form), Form.fits l → x.fit → Form.fits (l.set i x)
  | [], i, x, h, _ => by simpa using h
  | y :: l, 0, x, h, hx => by
    rw [Form.fits] at h; rw [List.set_cons_zero, Form.fits]; exact ⟨hx, h.2⟩
  | y :: l, i + 1, x, h, hx => by
    rw [Form.fits] at h; rw [List.set_cons_succ, Form.fits]; exact ⟨h.1, Form.fits_set l i x h.2 hx⟩
def mutF (v1 : Form) (o1 : l15Rd) (fuel : Nat) : Option (Form × l15Rd) :=
 (m_spec_l15Rd_pick fuel o1 14).bind fun v9 =>
 (bif (decide (v9.1 = 0)) then
 (m_spec_l15Rd_num fuel v9.2 [0, 4, 1, 3]).bind fun v11 =>
 some ((Form.mk v11.1 v1.name v1.n v1.scopes v1.kids), v11.2)
 else
 (bif (decide (v9.1 = 1)) then
 (m_spec_l15Rd_of fuel v9.2 [(⟨#[]⟩ : ByteArray), (⟨#[65]⟩ : ByteArray), (⟨#[116, 111, 111, 108, 111, 110, 103, 97, 110, 97, 109, 101, 49]⟩ : ByteArray), (⟨#[122]⟩ : ByteArray), (⟨#[120, 32, 121]⟩ : ByteArray)]).bind fun v13 =>
 some ((Form.mk v1.kind v13.1 v1.n v1.scopes v1.kids), v13.2)
 else
 (bif (decide (v9.1 = 2)) then
 (m_spec_l15Rd_num fuel v9.2 [1000, (-1), 5]).bind fun v15 =>
 some ((Form.mk v1.kind v1.name v15.1 v1.scopes v1.kids), v15.2)
 else
 (bif (decide (v9.1 = 3)) then
 (m_spec_l15Rd_num fuel v9.2 [0, 100, 1, 50]).bind fun v17 =>
 chk (decide ((v1.scopes.length + [v17.1].length) * 8 ≤ 140737488355328)) <|
 some ((Form.mk v1.kind v1.name v1.n (v1.scopes ++ [v17.1]) v1.kids), v17.2)
 else
 some (v1, v9.2)))))
theorem mutF_tq (v1 : Form) (o : l15Rd) (K : Int) (h : OkRd o K) (hK : K + 2 ≤ 1000000000) (hw : v1.w ≤ 2 ^ 36) (hf : v1.fit) : TQ (mutF v1 o) (fun r => OkRd r.2 (K + 2) ∧ r.1.w ≤ v1.w + 1 ∧ r.1.fit) := by
  have hk := v1.w_kids
  obtain ⟨f1, f2, f3, f4⟩ := hf.parts
  unfold mutF
  refine TQ.bind (pick_tq o 14 _ h (by omega)) (fun v hv => ?_)
  refine TQ.cond (fun _ => ?_) (fun _ => TQ.cond (fun _ => ?_) (fun _ => TQ.cond (fun _ => ?_) (fun _ => TQ.cond (fun _ => ?_) (fun _ => ?_))))
  · exact TQ.bind (num_tq _ _ _ hv.1 (by omega) (by decide)) (fun w hw => TQ.val ⟨hw.1.mono (by omega), by simp only [Form.w]; omega, by rw [Form.fit]; exact ⟨f1, f2, f3, f4⟩⟩)
  · exact TQ.bind (of_tq _ _ _ hv.1 (by omega) (by decide)) (fun w hw => TQ.val ⟨hw.1.mono (by omega), by simp only [Form.w]; omega, by
      rw [Form.fit]
      refine ⟨?_, f2, f3, f4⟩
      have h2 := hw.2
      simp only [List.mem_cons, List.not_mem_nil, or_false] at h2
      rcases h2 with h2 | h2 | h2 | h2 | h2 <;> rw [h2] <;> decide⟩)
  · exact TQ.bind (num_tq _ _ _ hv.1 (by omega) (by decide)) (fun w hw => TQ.val ⟨hw.1.mono (by omega), by simp only [Form.w]; omega, by rw [Form.fit]; exact ⟨f1, f2, f3, f4⟩⟩)
  · exact TQ.bind (num_tq _ _ _ hv.1 (by omega) (by decide)) (fun w hw => TQ.chk (by simp; omega) (TQ.val ⟨hw.1.mono (by omega), by simp only [Form.w, List.length_append, List.length_cons, List.length_nil]; omega, by rw [Form.fit]; exact ⟨f1, by simp only [List.length_append, List.length_cons, List.length_nil]; omega, f3, f4⟩⟩))
  · exact TQ.val ⟨hv.1.mono (by omega), Nat.le_succ _, hf⟩
theorem l1Mutate_tq : ∀ (n : Nat) (c : Form) (o : l15Rd) (K : Int), c.w ≤ n → OkRd o K → c.w ≤ 2 ^ 30 → c.fit → K + 3 * c.w ≤ 1000000000 → TQ (fun m => m_spec_l1Mutate m o c) (fun r => OkRd r.2 (K + 3 * c.w) ∧ r.1.w ≤ c.w + 1 ∧ r.1.fit) := by
  intro n
  induction n with
  | zero => intro c o K h; have := c.w_kids; omega
  | succ n ih =>
    intro c o K h ho hb hf hK
    have hw := c.w_kids
    obtain ⟨f1, f2, f3, f4⟩ := hf.parts
    refine TQ.step (fun m => by rw [m_spec_l1Mutate]) ?_
    refine TQ.ev (l1Copy_tr _ c (Nat.le_refl _) (by omega)) ?_
    refine TQ.cond (fun hc => ?_) (fun _ => ?_)
    · have hpos : 0 < c.kids.length := by simpa using hc
      have hl := Form.ws_len c.kids
      refine TQ.bind (pick_tq o 2 _ ho (by omega)) (fun v hv => ?_)
      refine TQ.cond (fun _ => ?_) (fun _ => ?_)
      · refine TQ.bind (pick_tq _ _ _ hv.1 (by omega)) (fun w hw2 => ?_)
        obtain ⟨h1, _, h2, _⟩ := hw2
        obtain ⟨h2, h3⟩ := h2 (by omega)
        obtain ⟨x, hx, hm⟩ := idx_int h2 h3
        have hxw := Form.ws_mem hm
        have hx2 := (idx_some hx).2.2
        obtain ⟨r, hr, q1, q2, q3⟩ := ih x w.2 _ (by omega) h1 (by omega) (Form.fits_mem f4 hm) (by omega)
        refine ⟨_, Tr.idx hx (Tr.bind hr (Tr.idx hx Tr.val)), q1.mono (by omega), ?_, ?_⟩
        · have := Form.ws_set c.kids w.1.toNat r.1 1 (fun y hy => by rw [hx2] at hy; cases hy; exact q2)
          simp only [Form.w]; omega
        · rw [Form.fit]; exact ⟨f1, f2, by rw [List.length_set]; exact f3, Form.fits_set _ _ _ f4 q3⟩
      · exact (mutF_tq c _ _ hv.1 (by omega) (by omega) hf).mono (fun r hr => ⟨hr.1.mono (by omega), hr.2⟩)
    · exact (mutF_tq c _ _ ho (by omega) (by omega) hf).mono (fun r hr => ⟨hr.1.mono (by omega), hr.2⟩)
end Go.Abs
end
section
set_option linter.unusedVariables false
set_option linter.unusedSimpArgs false
namespace Go.Abs
theorem Form.fits_app : ∀ {a b : List Form}, Form.fits a → Form.fits b → Form.fits (a ++ b)
  | [], b, _, hb => hb
  | x :: a, b, ha, hb => by rw [Form.fits] at ha; rw [List.cons_append, Form.fits]; exact ⟨ha.1, Form.fits_app ha.2 hb⟩
theorem set_mid {α : Type} (d : List α) (x y : α) (zs : List α) : (d ++ x :: zs).set d.length y = (d ++ [y]) ++ zs := by
  rw [List.set_append_right _ _ (Nat.le_refl _), Nat.sub_self, List.set_cons_zero, List.append_assoc]; rfl
theorem dressLoop {L : Nat → Int → List Int → Int → List Form → Option (Form × l15Rd)} {fin : List Form → Form}
    (h0 : ∀ m k b p acc, L (m + 1) k b p acc = bif decide (k < (acc.length : Int)) then (idx acc k).bind fun x => (m_spec_l1Dress m (l15Rd.mk b p) x).bind fun r => (idx acc k).bind fun _ => L m (k + 1) r.2.b r.2.p (acc.set k.toNat r.1) else some (fin acc, l15Rd.mk b p)) :
    ∀ (zs d : List Form) (o : l15Rd) (K : Int), (∀ x ∈ zs, ∀ (o : l15Rd) (K : Int), OkRd o K → K + 3 * x.w ≤ 1000000000 → TQ (fun m => m_spec_l1Dress m o x) (fun r => OkRd r.2 (K + x.w) ∧ r.1.w ≤ 4 * x.w ∧ r.1.fit)) → OkRd o K → K + 3 * Form.ws zs ≤ 1000000000 → Form.fits d →
      TQ (fun m => L m (d.length : Int) o.b o.p (d ++ zs)) (fun r => ∃ e, r.1 = fin e ∧ Form.ws e ≤ Form.ws d + 4 * Form.ws zs ∧ Form.fits e ∧ e.length = d.length + zs.length ∧ OkRd r.2 (K + Form.ws zs))
  | [], d, o, K, _, ho, _, hd => by
    refine TQ.step (fun m => by rw [h0, List.append_nil, ltN_self, cond_false]) (TQ.val ⟨d, rfl, by simp [Form.ws], hd, by simp, ?_⟩)
    simpa [Form.ws] using ho.mk'
  | x :: zs, d, o, K, hx, ho, hK, hd => by
    rw [Form.ws] at hK
    have hi : (d ++ x :: zs)[d.length]? = some x := by simp
    refine TQ.step (fun m => by rw [h0, ltN (by simp), cond_true, idx_nat hi, Option.bind_some, Int.toNat_natCast]) ?_
    refine TQ.bind (hx x (by simp) _ K ho.mk' (by omega)) (fun r hr => ?_)
    refine TQ.eq (fun m => by rw [Option.bind_some, set_mid, show (d.length : Int) + 1 = ((d ++ [r.1]).length : Int) by simp]) ?_
    refine TQ.mono (dressLoop h0 zs (d ++ [r.1]) r.2 (K + x.w) (fun y hy => hx y (by simp [hy])) hr.1 (by omega) (Form.fits_app hd (by rw [Form.fits, Form.fits]; exact ⟨hr.2.2, trivial⟩))) (fun q hq => ?_)
    obtain ⟨e, e1, e2, e3, e4, e5⟩ := hq
    refine ⟨e, e1, ?_, e3, by rw [e4]; simp; omega, e5.mono (by rw [Form.ws]; omega)⟩
    rw [Form.ws_append, Form.ws, Form.ws] at e2
    rw [Form.ws]; omega
theorem l1Dress_tq : ∀ (n : Nat) (c : Form) (o : l15Rd) (K : Int), c.w ≤ n → OkRd o K → c.w ≤ 2 ^ 30 → c.fit → K + 3 * c.w ≤ 1000000000 → TQ (fun m => m_spec_l1Dress m o c) (fun r => OkRd r.2 (K + c.w) ∧ r.1.w ≤ 4 * c.w ∧ r.1.fit) := by
  intro n
  induction n with
  | zero => intro c o K h; have := c.w_kids; omega
  | succ n ih =>
    intro c o K h ho hb hf hK
    have hw := c.w_kids
    have hlen := Form.ws_len c.kids
    obtain ⟨f1, f2, f3, f4⟩ := hf.parts
    have step : ∀ x ∈ c.kids, ∀ (o : l15Rd) (K : Int), OkRd o K → K + 3 * x.w ≤ 1000000000 → TQ (fun m => m_spec_l1Dress m o x) (fun r => OkRd r.2 (K + x.w) ∧ r.1.w ≤ 4 * x.w ∧ r.1.fit) := fun x hx o K ho hK => by
      have := Form.ws_mem hx
      exact ih x o K (by omega) ho (by omega) (Form.fits_mem f4 hx) hK
    refine TQ.step (fun m => by rw [m_spec_l1Dress]) (TQ.ev (l1Copy_tr _ c (Nat.le_refl _) (by omega)) ?_)
    refine TQ.cond (fun _ => ?_) (fun _ => ?_)
    · refine TQ.bind (pick_tq o _ _ ho (by omega)) (fun v hv => ?_)
      obtain ⟨h1, _, h2, _⟩ := hv
      obtain ⟨h2, h3⟩ := h2 (by decide)
      refine TQ.idx h2 h3 (fun sc hsc => ?_)
      have hsl : sc.length ≤ 3 := by
        simp only [List.mem_cons, List.not_mem_nil, or_false] at hsc
        rcases hsc with h | h | h | h | h | h | h <;> rw [h] <;> decide
      refine TQ.chk (decide_eq_true (by simp only [List.length_nil]; omega)) ?_
      have key := dressLoop (L := fun m k b p acc => m_spec_l1Dress_l1 m c sc k b p acc) (fin := fun e => Form.mk c.kind c.name c.n (([] : List Int) ++ sc) e) (fun m k b p acc => by rw [m_spec_l1Dress_l1]) c.kids [] v.2 (K + 1) step h1 (by omega) (by rw [Form.fits]; trivial)
      refine TQ.mono key (fun r hr => ?_)
      obtain ⟨e, e1, e2, e3, e4, e5⟩ := hr
      simp only [Form.ws, List.length_nil, Nat.zero_add] at e2 e4
      refine ⟨e5.mono (by omega), ?_, ?_⟩
      · rw [e1]; simp only [Form.w, List.nil_append]; omega
      · rw [e1, Form.fit]; exact ⟨f1, by rw [List.nil_append]; omega, by omega, e3⟩
    · have key := dressLoop (L := fun m k b p acc => m_spec_l1Dress_l2 m c k b p acc) (fin := fun e => Form.mk c.kind c.name c.n c.scopes e) (fun m k b p acc => by rw [m_spec_l1Dress_l2]) c.kids [] o K step ho (by omega) (by rw [Form.fits]; trivial)
      refine TQ.mono key (fun r hr => ?_)
      obtain ⟨e, e1, e2, e3, e4, e5⟩ := hr
      simp only [Form.ws, List.length_nil, Nat.zero_add] at e2 e4
      refine ⟨e5.mono (by omega), ?_, ?_⟩
      · rw [e1]; simp only [Form.w]; omega
      · rw [e1, Form.fit]; exact ⟨f1, f2, by omega, e3⟩
end Go.Abs
end
section
set_option linter.unusedVariables false
namespace Go.Abs
mutual
def Form.fitB : Form → Bool
  | .mk _ name _ scopes kids => decide (name.size ≤ 100) && (decide (scopes.length ≤ 100) && (decide (kids.length ≤ 100) && Form.fitBs kids))
def Form.fitBs : List Form → Bool
  | [] => true
  | f :: fs => f.fitB && Form.fitBs fs
end
mutual
theorem Form.fitB_fit : ∀ {f : Form}, f.fitB = true → f.fit
  | .mk a b c d e, h => by
    rw [Form.fitB] at h
    simp only [Bool.and_eq_true, decide_eq_true_eq] at h
    rw [Form.fit]
    exact ⟨by omega, by omega, by omega, Form.fitBs_fit h.2.2.2⟩
theorem Form.fitBs_fit : ∀ {l : List Form}, Form.fitBs l = true → Form.fits l
  | [], _ => by rw [Form.fits]; trivial
  | f :: fs, h => by
    rw [Form.fitBs, Bool.and_eq_true] at h
    rw [Form.fits]; exact ⟨Form.fitB_fit h.1, Form.fitBs_fit h.2⟩
end
structure Parsed (s : ByteArray) (f : Form) : Prop where
  tr : Tr (fun m => m_spec_l1Parse m s) f
  w : f.w ≤ 100
  fit : f.fit
def Pairs : List (Form × Form) → List (List ByteArray) → Prop
  | [], l => l = []
  | p :: ps, l => ∃ x xs, l = x :: xs ∧ (∃ a b, x = [a, b] ∧ Parsed a p.1 ∧ Parsed b p.2) ∧ Pairs ps xs
theorem Pairs.mem : ∀ {ps : List (Form × Form)} {l : List (List ByteArray)}, Pairs ps l → ∀ x ∈ l, ∃ p ∈ ps, ∃ a b, x = [a, b] ∧ Parsed a p.1 ∧ Parsed b p.2
  | [], l, h, x, hx => by rw [Pairs] at h; subst h; cases hx
  | p :: ps, l, h, x, hx => by
    rw [Pairs] at h
    obtain ⟨y, ys, rfl, h1, h2⟩ := h
    rcases List.mem_cons.1 hx with rfl | hx
    · exact ⟨p, by simp, h1⟩
    · obtain ⟨q, hq, r⟩ := Pairs.mem h2 x hx
      exact ⟨q, by simp [hq], r⟩
end Go.Abs
end
section
set_option linter.unusedVariables false
set_option linter.unusedSimpArgs false
namespace Go.Abs
theorem Form.fits_one {f : Form} (h : f.fit) : Form.fits [f] := by rw [Form.fits, Form.fits]; exact ⟨h, trivial⟩
theorem Form.fits_nil : Form.fits [] := by rw [Form.fits]; trivial
theorem TQ.same {α : Type} {F : Nat → Option α} {v : α} (h : Tr F v) : TQ F (fun r => r = v) := ⟨v, h, rfl⟩
theorem TQ.tr {α : Type} {F : Nat → Option α} {v : α} (h : TQ F (fun r => r = v)) : Tr F v := by obtain ⟨r, h, rfl⟩ := h; exact h
theorem TQ.at {α β : Type} {l : List α} {i : Int} {x : α} {g : α → Nat → Option β} {R : β → Prop} (hx : Abs.idx l i = some x) (h : TQ (fun m => g x m) R) : TQ (fun m => (Abs.idx l i).bind fun y => g y m) R := by
  obtain ⟨w, hw, hr⟩ := h
  exact ⟨w, Tr.idx hx hw, hr⟩
structure Dr (n : Nat) (f : Form) : Prop where
  w : f.w ≤ n
  fit : f.fit
theorem Dr.mono {n k : Nat} {f : Form} (h : Dr n f) (hk : n ≤ k) : Dr k f := ⟨Nat.le_trans h.w hk, h.fit⟩
theorem Parsed.dr {s : ByteArray} {f : Form} (h : Parsed s f) : Dr 100 f := ⟨h.w, h.fit⟩
theorem mutate2_tq (c : Form) (o : l15Rd) (K : Int) (ho : OkRd o K) (hc : Dr 1000 c) (hK : K ≤ 1000000) {β : Type} {g : Form → l15Rd → Nat → Option β} {R : β → Prop}
    (h : ∀ f o', OkRd o' (K + 7000) → Dr (c.w + 2) f → TQ (fun m => g f o' m) R) : TQ (fun m => (m_spec_l1Mutate m o c).bind fun v => (m_spec_l1Mutate m v.2 v.1).bind fun u => g u.1 u.2 m) R := by
  have h1 := hc.w
  refine TQ.bind (l1Mutate_tq _ c o K (Nat.le_refl _) ho (by omega) hc.fit (by omega)) (fun v hv => ?_)
  obtain ⟨v1, v2, v3⟩ := hv
  refine TQ.bind (l1Mutate_tq _ v.1 v.2 _ (Nat.le_refl _) v1 (by omega) v3 (by omega)) (fun u hu => ?_)
  obtain ⟨u1, u2, u3⟩ := hu
  exact h _ _ (u1.mono (by omega)) ⟨by omega, u3⟩
theorem nameForm_dr {s : ByteArray} (h : s.size ≤ 100) : Dr 1 (Form.mk 1 s 0 ([] : List Int) ([] : List Form)) := ⟨by simp [Form.w, Form.ws], by rw [Form.fit, Form.fits]; simp; omega⟩
def elseF : Form := Form.mk 1 (⟨#[101, 108, 115, 101]⟩ : ByteArray) 0 ([] : List Int) ([] : List Form)
theorem elseF_dr : Dr 1 elseF := nameForm_dr (by decide)
theorem pairs_tq {l : List (List ByteArray)} {ps : List (Form × Form)} (hl : Pairs ps l) {i : Int} (h0 : 0 ≤ i) (h1 : i < l.length) : ∃ p ∈ ps, ∃ a b, Abs.idx l i = some [a, b] ∧ Parsed a p.1 ∧ Parsed b p.2 := by
  obtain ⟨x, hx, hm⟩ := idx_int h0 h1
  obtain ⟨p, hp, a, b, rfl, h2, h3⟩ := hl.mem x hm
  exact ⟨p, hp, a, b, hx, h2, h3⟩
theorem idx2_0 {α : Type} (a b : α) : Abs.idx [a, b] 0 = some a := rfl
theorem idx2_1 {α : Type} (a b : α) : Abs.idx [a, b] 1 = some b := rfl
def lits4 (l : List Form) : Prop := l = [elseF] ∨ l = []
theorem lits4.dr {l : List Form} (h : lits4 l) : Form.ws l ≤ 2 ∧ Form.fits l ∧ l.length ≤ 1 := by
  rcases h with rfl | rfl
  · exact ⟨by decide, Form.fits_one elseF_dr.fit, by decide⟩
  · exact ⟨by decide, Form.fits_nil, by decide⟩
end Go.Abs
end
section
set_option linter.unusedVariables false
set_option linter.unusedSimpArgs false
namespace Go.Abs
theorem loop_app {α β γ : Type} {xs : List α} {c : Nat} {f : α → β} {L : Nat → Int → List β → Option γ} {E : Nat → α → Option β} {fin : List β → γ}
    (h0 : ∀ m k acc, L (m + 1) k acc = bif decide (k < (xs.length : Int)) then (idx xs k).bind fun a => (E m a).bind fun v => chk (decide ((acc.length + [v].length) * c ≤ 140737488355328)) (L m (k + 1) (acc ++ [v])) else some (fin acc))
    (hE : ∀ a ∈ xs, Tr (fun m => E m a) (f a)) (acc0 : List β) (hb : (acc0.length + xs.length) * c ≤ 140737488355328) : Tr (fun m => L m 0 acc0) (fin (acc0 ++ xs.map f)) := by
  have key := drop_ind xs (fun k zs => ∀ acc : List β, (acc.length + zs.length) * c ≤ 140737488355328 → Tr (fun m => L m (k : Int) acc) (fin (acc ++ zs.map f))) ?_ ?_ 0 (Nat.zero_le _) acc0 (by simpa using hb)
  · simpa using key
  · intro acc _
    refine Tr.step (fun m => by rw [h0, ltN_self, cond_false]) ?_
    rw [List.map_nil, List.append_nil]; exact Tr.val
  · intro k x zs hk hx hd ih acc hc
    refine Tr.step (fun m => by rw [h0, ltN hk, cond_true, idx_nat hx, Option.bind_some, succN]) ?_
    refine Tr.bind (hE x (List.mem_of_getElem? hx)) ?_
    have hc1 : (acc.length + 1) * c ≤ 140737488355328 := Nat.le_trans (Nat.mul_le_mul_right c (by simp)) hc
    refine Tr.chk (decide_eq_true (by simpa using hc1)) ?_
    have := ih (acc ++ [f x]) (by
      refine Nat.le_trans (Nat.mul_le_mul_right c ?_) hc
      simp; omega)
    rwa [List.append_assoc] at this
theorem clone_tr (l : List Int) (h : l.length ≤ 2 ^ 36) : Tr (fun m => m_slices_Clone_int m l) l :=
  Tr.eq (fun m => by unfold m_slices_Clone_int; rfl) (Tr.chk (decide_eq_true (by simp; omega)) Tr.val)
theorem copyForm_n : ∀ (n : Nat) (f : Form), f.w ≤ n → f.w ≤ 2 ^ 36 → Tr (fun m => m_impl_copyForm m f) f := by
  intro n
  induction n with
  | zero => intro f h _; have := f.w_kids; omega
  | succ n ih =>
    intro f h hb
    have hw := f.w_kids
    have hl := Form.ws_len f.kids
    refine Tr.step (fun m => by rw [m_impl_copyForm]) (Tr.bind (clone_tr _ (by omega)) ?_)
    have := loop_app (xs := f.kids) (c := 80) (f := fun x => x) (L := fun m k acc => m_impl_copyForm_l1 m f f.scopes k acc) (E := fun m a => m_impl_copyForm m a) (fin := fun g => Form.mk f.kind f.name f.n f.scopes g)
      (fun m k acc => by rw [m_impl_copyForm_l1]) (fun a ha => ih a (by have := Form.ws_mem ha; omega) (by have := Form.ws_mem ha; omega)) [] (by simp; omega)
    rw [List.map_id', List.nil_append] at this
    obtain ⟨a, b, c, d, e⟩ := f
    exact this
theorem copyForm_tr (f : Form) (h : f.w ≤ 2 ^ 36) : Tr (fun m => m_impl_copyForm m f) f := copyForm_n _ f (Nat.le_refl _) h
noncomputable def pvars (f : Form) (lits : List Form) : List Form := bif patOk f lits then f.vs lits else []
noncomputable def pdeps (f : Form) (lits : List Form) : List Int := bif patOk f lits then (f.vd lits 0).map (·.2) else []
theorem Form.vs_w (lits : List Form) (f : Form) : ∀ x ∈ f.vs lits, x.w ≤ f.w := by
  have key : ∀ (n : Nat) (f : Form), f.w ≤ n → ∀ x ∈ f.vs lits, x.w ≤ f.w := by
    intro n
    induction n with
    | zero => intro f h; have := f.w_kids; omega
    | succ n ih =>
      intro f h x hx
      have hw := f.w_kids
      rw [Form.vs_eq] at hx
      rcases List.mem_append.1 hx with hx | hx
      · cases hv : isVarB lits f with
        | true => rw [hv, cond_true, List.mem_singleton] at hx; subst hx; exact Nat.le_refl _
        | false => rw [hv, cond_false] at hx; cases hx
      · have k2 : ∀ l : List Form, Form.ws l ≤ n → x ∈ Form.kVs lits l → x.w ≤ Form.ws l := by
          intro l
          induction l with
          | nil => intro _ hx; rw [Form.kVs] at hx; cases hx
          | cons y l ihl =>
            intro hl hx
            rw [Form.ws] at hl ⊢
            rw [Form.kVs] at hx
            rcases List.mem_append.1 hx with hx | hx
            · have := ih y (by omega) x hx; omega
            · have := ihl (by omega) hx; omega
        have := k2 f.kids (by omega) hx
        omega
  exact key _ f (Nat.le_refl _)
theorem implPatternVars_tr (f : Form) (lits : List Form) (hf : f.fit) (hb : f.w ≤ 2 ^ 36) (hl : Form.fits lits) : Tr (fun m => m_impl_PatternVars m f lits) (pvars f lits) := by
  refine Tr.eq (fun m => by unfold m_impl_PatternVars; rfl) (Tr.bind (implPatternValid_tr f lits hf hb hl) ?_)
  unfold pvars
  cases patOk f lits with
  | false => exact Tr.tt rfl Tr.val
  | true =>
  refine Tr.ff rfl (Tr.bind (varsOf_tr f lits hb) ?_)
  rw [cond_true, ← Form.vd_fst lits f 0]
  have hlen := Form.vd_len lits f 0
  have key := drop_ind ((f.vd lits 0).map (·.1)) (fun k zs => Tr (fun m => m_impl_PatternVars_l1 m ((f.vd lits 0).map (·.1), (f.vd lits 0).map (·.2)) (k : Int) ((f.vd lits 0).map (·.1))) ((f.vd lits 0).map (·.1))) ?_ ?_ 0 (Nat.zero_le _)
  · exact key
  · exact Tr.step (fun m => by rw [m_impl_PatternVars_l1, ltN_self, cond_false]) Tr.val
  · intro k x zs hk hx hd ih
    have hm := List.mem_of_getElem? hx
    rw [Form.vd_fst] at hm
    refine Tr.step (fun m => by rw [m_impl_PatternVars_l1, ltN hk, cond_true, idx_nat hx, Option.bind_some]) ?_
    refine Tr.bind (copyForm_tr x (by have := Form.vs_w lits f x hm; omega)) (Tr.eq (fun m => by rw [Option.bind_some, w64_in (by rw [List.length_map] at hk; omega), succN, Int.toNat_natCast]) ?_)
    obtain ⟨h1, h2⟩ := List.getElem?_eq_some_iff.1 hx
    rw [show ((f.vd lits 0).map (·.1)).set k x = (f.vd lits 0).map (·.1) by rw [← h2]; exact List.set_getElem_self h1]
    exact ih
theorem implVarDepths_tr (f : Form) (lits : List Form) (hf : f.fit) (hb : f.w ≤ 2 ^ 36) (hl : Form.fits lits) : Tr (fun m => m_impl_VarDepths m f lits) (pdeps f lits) := by
  refine Tr.eq (fun m => by unfold m_impl_VarDepths; rfl) (Tr.bind (implPatternValid_tr f lits hf hb hl) ?_)
  unfold pdeps
  cases patOk f lits with
  | false => exact Tr.tt rfl Tr.val
  | true => exact Tr.ff rfl (Tr.bind (varsOf_tr f lits hb) Tr.val)
mutual
noncomputable def Form.part (x : Form) : Form → Bool
  | .mk a b c d kids => same (Form.mk a b c d kids) x || Form.parts x kids
noncomputable def Form.parts (x : Form) : List Form → Bool
  | [] => false
  | y :: ys => Form.part x y || Form.parts x ys
end
theorem Form.part_eq (x f : Form) : Form.part x f = (same f x || Form.parts x f.kids) := by obtain ⟨a, b, c, d, e⟩ := f; rw [Form.part]; rfl
mutual
theorem Form.vs_part (lits : List Form) : ∀ (f x : Form), x ∈ f.vs lits → isVarB lits x = true ∧ Form.part x f = true
  | .mk a b c d kids, x, hx => by
    rw [Form.part_eq]
    rw [Form.vs] at hx
    rcases List.mem_append.1 hx with hx | hx
    · cases hv : isVarB lits (.mk a b c d kids) with
      | true => rw [hv, cond_true, List.mem_singleton] at hx; subst hx; exact ⟨hv, by rw [same_self]; rfl⟩
      | false => rw [hv, cond_false] at hx; cases hx
    · have := Form.kVs_part lits kids x hx
      exact ⟨this.1, by rw [show (Form.mk a b c d kids).kids = kids from rfl, this.2, Bool.or_true]⟩
theorem Form.kVs_part (lits : List Form) : ∀ (l : List Form) (x : Form), x ∈ Form.kVs lits l → isVarB lits x = true ∧ Form.parts x l = true
  | [], x, hx => by rw [Form.kVs] at hx; cases hx
  | y :: ys, x, hx => by
    rw [Form.kVs] at hx
    rw [Form.parts]
    rcases List.mem_append.1 hx with hx | hx
    · have := Form.vs_part lits y x hx
      exact ⟨this.1, by rw [this.2]; rfl⟩
    · have := Form.kVs_part lits ys x hx
      exact ⟨this.1, by rw [this.2, Bool.or_true]⟩
end
theorem codeB {code : List Int} {F G : Nat → Option Bool} (h : ¬ 1048576 < (code.length : Int) → TQ G (fun r => r = true)) (h0 : ∀ m, F m = bif decide (1048576 < (code.length : Int)) then some true else G m) : TQ F (fun r => r = true) :=
  TQ.eq h0 (TQ.cond (fun _ => TQ.val rfl) (fun hc => h (by simpa using hc)))
theorem distF_ne : ∀ {l ps : List Form}, distF ps l = true → (∀ x ∈ l, ∀ y ∈ ps, same y x = false) ∧ ∀ (i j : Nat) (x y : Form), i < j → l[i]? = some x → l[j]? = some y → same x y = false
  | [], ps, _ => ⟨fun x hx => by simp at hx, fun i j x y _ hx => by simp at hx⟩
  | z :: l, ps, h => by
    rw [distF, Bool.and_eq_true] at h
    obtain ⟨h1, h2⟩ := h
    obtain ⟨k1, k2⟩ := distF_ne h2
    have hz : ∀ y ∈ ps, same y z = false := fun y hy => by
      unfold inF at h1
      rw [Bool.not_not, alls_iff] at h1
      simpa using h1 y hy
    refine ⟨fun x hx y hy => ?_, fun i j x y hij hx hy => ?_⟩
    · rcases List.mem_cons.1 hx with rfl | hx
      · exact hz y hy
      · exact k1 x hx y (by simp [hy])
    · cases j with
      | zero => omega
      | succ j =>
        cases i with
        | zero =>
          simp at hx; subst hx
          exact k1 y (List.mem_of_getElem? (by simpa using hy)) z (by simp)
        | succ i => exact k2 i j x y (by omega) (by simpa using hx) (by simpa using hy)
end Go.Abs
end
section
set_option linter.unusedVariables false
set_option linter.unusedSimpArgs false
namespace Go.Abs
def anys {α : Type} (D : α → Bool) : List α → Bool
  | [] => false
  | x :: xs => D x || anys D xs
def hasB (l : List Int) (n : Int) : Bool := anys (fun x => decide (x = n)) l
def withinB (a b : List Int) : Bool := alls (fun x => hasB b x) a
def fitB (f : Form) (b : Bind) : Bool := decide (b.name = f.name) && withinB b.scopes f.scopes
end Go.Abs
end
section
set_option linter.unusedVariables false
set_option linter.unusedSimpArgs false
namespace Go.Abs
structure PatS (p : Form) : Prop where
  ok : ∃ d, p.isOk d = true
  shp : p.shp = true
def KidS (x : Form) : Prop := (∃ d, x.isOk d = true) ∧ (isDots x = true ∨ x.shp = true)
theorem isOk_kids {f : Form} {d : Nat} (h : f.isOk d = true) : (f.kind ≠ 3 → f.kids = []) ∧ ∀ x ∈ f.kids, x.isOk (d - 1) = true := by
  rw [Form.isOk_eq] at h
  cases hd : decide (d = 0) with
  | true => rw [hd] at h; cases h
  | false =>
  rw [hd, cond_false] at h
  by_cases h1 : f.kind = 1
  · rw [decide_eq_true h1, cond_true] at h
    simp only [Bool.and_eq_true, decide_eq_true_eq] at h
    have : f.kids = [] := List.eq_nil_of_length_eq_zero (by omega)
    exact ⟨fun _ => this, fun x hx => by rw [this] at hx; cases hx⟩
  · rw [decide_eq_false h1, cond_false] at h
    by_cases h2 : f.kind = 2
    · rw [decide_eq_true h2, cond_true] at h
      simp only [Bool.and_eq_true, decide_eq_true_eq] at h
      have : f.kids = [] := List.eq_nil_of_length_eq_zero (by omega)
      exact ⟨fun _ => this, fun x hx => by rw [this] at hx; cases hx⟩
    · rw [decide_eq_false h2, cond_false] at h
      simp only [Bool.and_eq_true, decide_eq_true_eq] at h
      obtain ⟨h3, _, _, _, h4⟩ := h
      exact ⟨fun hn => absurd h3 hn, fun x hx => alls_iff.1 h4 x hx⟩
theorem kP_mem : ∀ {l : List Form} {pd : Bool}, Form.kP pd l = true → ∀ x ∈ l, isDots x = true ∨ x.shp = true
  | y :: ys, pd, h, x, hx => by
    rw [Form.kP, Bool.and_eq_true] at h
    rcases List.mem_cons.1 hx with rfl | hx
    · cases hd : isDots x with
      | true => exact .inl rfl
      | false => have := h.1; rw [hd, cond_false] at this; exact .inr this
    · exact kP_mem h.2 x hx
theorem PatS.parts {p : Form} (h : PatS p) : isDots p = false ∧ Form.kP true p.kids = true ∧ cntD p.kids ≤ 1 ∧ (∀ x ∈ p.kids, KidS x) ∧ (p.kind ≠ 3 → p.kids = []) := by
  obtain ⟨⟨d, hd⟩, hs⟩ := h
  rw [Form.shp_eq, Bool.and_eq_true, Bool.and_eq_true, Bool.not_eq_true', decide_eq_true_eq] at hs
  obtain ⟨k1, k2⟩ := isOk_kids hd
  exact ⟨hs.1, hs.2.1, hs.2.2, fun x hx => ⟨⟨_, k2 x hx⟩, kP_mem hs.2.1 x hx⟩, k1⟩
theorem Hit.ws_append : ∀ (a b : List Hit), Hit.ws (a ++ b) = Hit.ws a + Hit.ws b
  | [], b => by rw [List.nil_append, Hit.ws, Nat.zero_add]
  | x :: a, b => by rw [List.cons_append, Hit.ws, Hit.ws, Hit.ws_append a b]; omega
theorem Hit.fits_app : ∀ {a b : List Hit}, Hit.fits a → Hit.fits b → Hit.fits (a ++ b)
  | [], b, _, hb => hb
  | x :: a, b, ha, hb => by rw [Hit.fits] at ha; rw [List.cons_append, Hit.fits]; exact ⟨ha.1, Hit.fits_app ha.2 hb⟩
theorem Form.vs_fit (lits : List Form) : ∀ (n : Nat) (p : Form), p.w ≤ n → p.fit → ∀ x ∈ p.vs lits, x.fit := by
  intro n
  induction n with
  | zero => intro p h; have := p.w_kids; omega
  | succ n ih =>
    intro p hp hf x hx
    have hw := p.w_kids
    have hk := hf.parts.2.2.2
    rw [Form.vs_eq] at hx
    rcases List.mem_append.1 hx with hx | hx
    · cases hv : isVarB lits p with
      | true => rw [hv, cond_true, List.mem_singleton] at hx; subst hx; exact hf
      | false => rw [hv] at hx; cases hx
    · have key : ∀ l : List Form, Form.ws l ≤ n → Form.fits l → x ∈ Form.kVs lits l → x.fit := by
        intro l
        induction l with
        | nil => intro _ _ hx; rw [Form.kVs] at hx; cases hx
        | cons y ys ihl =>
          intro hl hfl hx
          rw [Form.ws] at hl
          rw [Form.fits] at hfl
          rw [Form.kVs] at hx
          rcases List.mem_append.1 hx with hx | hx
          · exact ih y (by omega) hfl.1 x hx
          · exact ihl (by omega) hfl.2 hx
      exact key p.kids (by omega) hk hx
end Go.Abs
end
section
set_option linter.unusedVariables false
set_option linter.unusedSimpArgs false
namespace Go.Abs
def MR (o : Option (List Hit)) (out : List Hit) (r : List Hit × Bool) : Prop := r.2 = o.isSome ∧ ∀ h, o = some h → r.1 = out ++ h
theorem MR.none {out : List Hit} {x : List Hit} : MR none out (x, false) := ⟨rfl, fun h hh => by cases hh⟩
end Go.Abs
end
section
set_option linter.unusedVariables false
set_option linter.unusedSimpArgs false
namespace Go.Abs
def Bind.fit (b : Bind) : Prop := b.name.size ≤ 9223372036854775807 ∧ b.scopes.length ≤ 9223372036854775807
theorem patOk_S {p : Form} {lits : List Form} (h : patOk p lits = true) : PatS p := by
  unfold patOk Form.valid at h
  simp only [Bool.and_eq_true] at h
  exact ⟨⟨40, h.1.1⟩, h.2.2.1⟩
theorem Hit.ws_set : ∀ (l : List Hit) (i : Nat) (x : Hit) (B : Nat), (∀ y, l[i]? = some y → x.w ≤ y.w + B) → Hit.ws (l.set i x) ≤ Hit.ws l + B
  | [], i, x, B, _ => by simp [Hit.ws]
  | y :: l, 0, x, B, h => by
    have := h y rfl
    rw [List.set_cons_zero, Hit.ws, Hit.ws]; omega
  | y :: l, i + 1, x, B, h => by
    have := Hit.ws_set l i x B (fun z hz => h z (by simpa using hz))
    rw [List.set_cons_succ, Hit.ws, Hit.ws]; omega
theorem Hit.fits_set : ∀ (l : List Hit) (i : Nat) (x : Hit), Hit.fits l → x.fit → Hit.fits (l.set i x)
  | [], i, x, h, _ => by simpa using h
  | y :: l, 0, x, h, hx => by
    rw [Hit.fits] at h; rw [List.set_cons_zero, Hit.fits]; exact ⟨hx, h.2⟩
  | y :: l, i + 1, x, h, hx => by
    rw [Hit.fits] at h; rw [List.set_cons_succ, Hit.fits]; exact ⟨h.1, Hit.fits_set l i x h.2 hx⟩
end Go.Abs
end
section
set_option linter.unusedVariables false
set_option maxRecDepth 100000
namespace Go.Abs
def t5F0 : Form := (Form.mk 3 (⟨#[]⟩ : ByteArray) 0 ([] : List Int) [(Form.mk 1 (⟨#[114, 117, 108, 101, 115]⟩ : ByteArray) 0 ([] : List Int) ([] : List Form)), (Form.mk 3 (⟨#[]⟩ : ByteArray) 0 ([] : List Int) ([] : List Form)), (Form.mk 3 (⟨#[]⟩ : ByteArray) 0 ([] : List Int) [(Form.mk 3 (⟨#[]⟩ : ByteArray) 0 ([] : List Int) [(Form.mk 1 (⟨#[95]⟩ : ByteArray) 0 ([] : List Int) ([] : List Form)), (Form.mk 1 (⟨#[97]⟩ : ByteArray) 0 ([] : List Int) ([] : List Form)), (Form.mk 1 (⟨#[98]⟩ : ByteArray) 0 ([] : List Int) ([] : List Form))]), (Form.mk 3 (⟨#[]⟩ : ByteArray) 0 ([] : List Int) [(Form.mk 1 (⟨#[108, 101, 116]⟩ : ByteArray) 0 ([] : List Int) ([] : List Form)), (Form.mk 3 (⟨#[]⟩ : ByteArray) 0 ([] : List Int) [(Form.mk 3 (⟨#[]⟩ : ByteArray) 0 ([] : List Int) [(Form.mk 1 (⟨#[116, 109, 112]⟩ : ByteArray) 0 ([] : List Int) ([] : List Form)), (Form.mk 1 (⟨#[97]⟩ : ByteArray) 0 ([] : List Int) ([] : List Form))])]), (Form.mk 3 (⟨#[]⟩ : ByteArray) 0 ([] : List Int) [(Form.mk 1 (⟨#[108, 105, 115, 116]⟩ : ByteArray) 0 ([] : List Int) ([] : List Form)), (Form.mk 1 (⟨#[98]⟩ : ByteArray) 0 ([] : List Int) ([] : List Form)), (Form.mk 1 (⟨#[116, 109, 112]⟩ : ByteArray) 0 ([] : List Int) ([] : List Form))])])])])
theorem t5P0 : Parsed (⟨#[40, 114, 117, 108, 101, 115, 32, 40, 41, 32, 40, 40, 95, 32, 97, 32, 98, 41, 32, 40, 108, 101, 116, 32, 40, 40, 116, 109, 112, 32, 97, 41, 41, 32, 40, 108, 105, 115, 116, 32, 98, 32, 116, 109, 112, 41, 41, 41, 41]⟩ : ByteArray) t5F0 := ⟨Tr.add 100 (fun m => by kernel_rfl), of_decide_eq_true (by kernel_rfl), Form.fitB_fit (by kernel_rfl)⟩
def t5F1 : Form := (Form.mk 3 (⟨#[]⟩ : ByteArray) 0 ([] : List Int) [(Form.mk 1 (⟨#[115, 119, 97, 112]⟩ : ByteArray) 0 ([] : List Int) ([] : List Form)), (Form.mk 1 (⟨#[120]⟩ : ByteArray) 0 ([] : List Int) ([] : List Form)), (Form.mk 1 (⟨#[121]⟩ : ByteArray) 0 ([] : List Int) ([] : List Form))])
theorem t5P1 : Parsed (⟨#[40, 115, 119, 97, 112, 32, 120, 32, 121, 41]⟩ : ByteArray) t5F1 := ⟨Tr.add 100 (fun m => by kernel_rfl), of_decide_eq_true (by kernel_rfl), Form.fitB_fit (by kernel_rfl)⟩
def t5F2 : Form := (Form.mk 3 (⟨#[]⟩ : ByteArray) 0 ([] : List Int) [(Form.mk 1 (⟨#[114, 117, 108, 101, 115]⟩ : ByteArray) 0 ([] : List Int) ([] : List Form)), (Form.mk 3 (⟨#[]⟩ : ByteArray) 0 ([] : List Int) ([] : List Form)), (Form.mk 3 (⟨#[]⟩ : ByteArray) 0 ([] : List Int) [(Form.mk 3 (⟨#[]⟩ : ByteArray) 0 ([] : List Int) [(Form.mk 1 (⟨#[95]⟩ : ByteArray) 0 ([] : List Int) ([] : List Form))]), (Form.mk 2 (⟨#[]⟩ : ByteArray) 0 ([] : List Int) ([] : List Form))]), (Form.mk 3 (⟨#[]⟩ : ByteArray) 0 ([] : List Int) [(Form.mk 3 (⟨#[]⟩ : ByteArray) 0 ([] : List Int) [(Form.mk 1 (⟨#[95]⟩ : ByteArray) 0 ([] : List Int) ([] : List Form)), (Form.mk 1 (⟨#[97]⟩ : ByteArray) 0 ([] : List Int) ([] : List Form))]), (Form.mk 1 (⟨#[97]⟩ : ByteArray) 0 ([] : List Int) ([] : List Form))]), (Form.mk 3 (⟨#[]⟩ : ByteArray) 0 ([] : List Int) [(Form.mk 3 (⟨#[]⟩ : ByteArray) 0 ([] : List Int) [(Form.mk 1 (⟨#[95]⟩ : ByteArray) 0 ([] : List Int) ([] : List Form)), (Form.mk 1 (⟨#[97]⟩ : ByteArray) 0 ([] : List Int) ([] : List Form)), (Form.mk 1 (⟨#[98]⟩ : ByteArray) 0 ([] : List Int) ([] : List Form)), (Form.mk 1 (⟨#[46, 46, 46]⟩ : ByteArray) 0 ([] : List Int) ([] : List Form))]), (Form.mk 3 (⟨#[]⟩ : ByteArray) 0 ([] : List Int) [(Form.mk 1 (⟨#[105, 102]⟩ : ByteArray) 0 ([] : List Int) ([] : List Form)), (Form.mk 1 (⟨#[97]⟩ : ByteArray) 0 ([] : List Int) ([] : List Form)), (Form.mk 2 (⟨#[]⟩ : ByteArray) 1 ([] : List Int) ([] : List Form)), (Form.mk 3 (⟨#[]⟩ : ByteArray) 0 ([] : List Int) [(Form.mk 1 (⟨#[111, 114]⟩ : ByteArray) 0 ([] : List Int) ([] : List Form)), (Form.mk 1 (⟨#[98]⟩ : ByteArray) 0 ([] : List Int) ([] : List Form)), (Form.mk 1 (⟨#[46, 46, 46]⟩ : ByteArray) 0 ([] : List Int) ([] : List Form))])])])])
theorem t5P2 : Parsed (⟨#[40, 114, 117, 108, 101, 115, 32, 40, 41, 32, 40, 40, 95, 41, 32, 48, 41, 32, 40, 40, 95, 32, 97, 41, 32, 97, 41, 32, 40, 40, 95, 32, 97, 32, 98, 32, 46, 46, 46, 41, 32, 40, 105, 102, 32, 97, 32, 49, 32, 40, 111, 114, 32, 98, 32, 46, 46, 46, 41, 41, 41, 41]⟩ : ByteArray) t5F2 := ⟨Tr.add 100 (fun m => by kernel_rfl), of_decide_eq_true (by kernel_rfl), Form.fitB_fit (by kernel_rfl)⟩
def t5F3 : Form := (Form.mk 3 (⟨#[]⟩ : ByteArray) 0 ([] : List Int) [(Form.mk 1 (⟨#[111, 114]⟩ : ByteArray) 0 ([] : List Int) ([] : List Form)), (Form.mk 1 (⟨#[120]⟩ : ByteArray) 0 ([] : List Int) ([] : List Form)), (Form.mk 1 (⟨#[121]⟩ : ByteArray) 0 ([] : List Int) ([] : List Form)), (Form.mk 1 (⟨#[122]⟩ : ByteArray) 0 ([] : List Int) ([] : List Form))])
theorem t5P3 : Parsed (⟨#[40, 111, 114, 32, 120, 32, 121, 32, 122, 41]⟩ : ByteArray) t5F3 := ⟨Tr.add 100 (fun m => by kernel_rfl), of_decide_eq_true (by kernel_rfl), Form.fitB_fit (by kernel_rfl)⟩
def t5F4 : Form := (Form.mk 3 (⟨#[]⟩ : ByteArray) 0 ([] : List Int) [(Form.mk 1 (⟨#[114, 117, 108, 101, 115]⟩ : ByteArray) 0 ([] : List Int) ([] : List Form)), (Form.mk 3 (⟨#[]⟩ : ByteArray) 0 ([] : List Int) ([] : List Form)), (Form.mk 3 (⟨#[]⟩ : ByteArray) 0 ([] : List Int) [(Form.mk 3 (⟨#[]⟩ : ByteArray) 0 ([] : List Int) [(Form.mk 1 (⟨#[95]⟩ : ByteArray) 0 ([] : List Int) ([] : List Form)), (Form.mk 3 (⟨#[]⟩ : ByteArray) 0 ([] : List Int) [(Form.mk 3 (⟨#[]⟩ : ByteArray) 0 ([] : List Int) [(Form.mk 1 (⟨#[120]⟩ : ByteArray) 0 ([] : List Int) ([] : List Form)), (Form.mk 1 (⟨#[118]⟩ : ByteArray) 0 ([] : List Int) ([] : List Form))]), (Form.mk 1 (⟨#[46, 46, 46]⟩ : ByteArray) 0 ([] : List Int) ([] : List Form))]), (Form.mk 1 (⟨#[98, 111, 100, 121]⟩ : ByteArray) 0 ([] : List Int) ([] : List Form))]), (Form.mk 3 (⟨#[]⟩ : ByteArray) 0 ([] : List Int) [(Form.mk 3 (⟨#[]⟩ : ByteArray) 0 ([] : List Int) [(Form.mk 1 (⟨#[108, 97, 109, 98, 100, 97]⟩ : ByteArray) 0 ([] : List Int) ([] : List Form)), (Form.mk 3 (⟨#[]⟩ : ByteArray) 0 ([] : List Int) [(Form.mk 1 (⟨#[120]⟩ : ByteArray) 0 ([] : List Int) ([] : List Form)), (Form.mk 1 (⟨#[46, 46, 46]⟩ : ByteArray) 0 ([] : List Int) ([] : List Form))]), (Form.mk 1 (⟨#[98, 111, 100, 121]⟩ : ByteArray) 0 ([] : List Int) ([] : List Form))]), (Form.mk 1 (⟨#[118]⟩ : ByteArray) 0 ([] : List Int) ([] : List Form)), (Form.mk 1 (⟨#[46, 46, 46]⟩ : ByteArray) 0 ([] : List Int) ([] : List Form))])])])
theorem t5P4 : Parsed (⟨#[40, 114, 117, 108, 101, 115, 32, 40, 41, 32, 40, 40, 95, 32, 40, 40, 120, 32, 118, 41, 32, 46, 46, 46, 41, 32, 98, 111, 100, 121, 41, 32, 40, 40, 108, 97, 109, 98, 100, 97, 32, 40, 120, 32, 46, 46, 46, 41, 32, 98, 111, 100, 121, 41, 32, 118, 32, 46, 46, 46, 41, 41, 41]⟩ : ByteArray) t5F4 := ⟨Tr.add 100 (fun m => by kernel_rfl), of_decide_eq_true (by kernel_rfl), Form.fitB_fit (by kernel_rfl)⟩
def t5F5 : Form := (Form.mk 3 (⟨#[]⟩ : ByteArray) 0 ([] : List Int) [(Form.mk 1 (⟨#[109, 121, 108, 101, 116]⟩ : ByteArray) 0 ([] : List Int) ([] : List Form)), (Form.mk 3 (⟨#[]⟩ : ByteArray) 0 ([] : List Int) [(Form.mk 3 (⟨#[]⟩ : ByteArray) 0 ([] : List Int) [(Form.mk 1 (⟨#[112]⟩ : ByteArray) 0 ([] : List Int) ([] : List Form)), (Form.mk 2 (⟨#[]⟩ : ByteArray) 1 ([] : List Int) ([] : List Form))]), (Form.mk 3 (⟨#[]⟩ : ByteArray) 0 ([] : List Int) [(Form.mk 1 (⟨#[113]⟩ : ByteArray) 0 ([] : List Int) ([] : List Form)), (Form.mk 2 (⟨#[]⟩ : ByteArray) 2 ([] : List Int) ([] : List Form))])]), (Form.mk 3 (⟨#[]⟩ : ByteArray) 0 ([] : List Int) [(Form.mk 1 (⟨#[102]⟩ : ByteArray) 0 ([] : List Int) ([] : List Form)), (Form.mk 1 (⟨#[112]⟩ : ByteArray) 0 ([] : List Int) ([] : List Form)), (Form.mk 1 (⟨#[113]⟩ : ByteArray) 0 ([] : List Int) ([] : List Form))])])
theorem t5P5 : Parsed (⟨#[40, 109, 121, 108, 101, 116, 32, 40, 40, 112, 32, 49, 41, 32, 40, 113, 32, 50, 41, 41, 32, 40, 102, 32, 112, 32, 113, 41, 41]⟩ : ByteArray) t5F5 := ⟨Tr.add 100 (fun m => by kernel_rfl), of_decide_eq_true (by kernel_rfl), Form.fitB_fit (by kernel_rfl)⟩
def t5F6 : Form := (Form.mk 3 (⟨#[]⟩ : ByteArray) 0 ([] : List Int) [(Form.mk 1 (⟨#[114, 117, 108, 101, 115]⟩ : ByteArray) 0 ([] : List Int) ([] : List Form)), (Form.mk 3 (⟨#[]⟩ : ByteArray) 0 ([] : List Int) [(Form.mk 1 (⟨#[101, 108, 115, 101]⟩ : ByteArray) 0 ([] : List Int) ([] : List Form))]), (Form.mk 3 (⟨#[]⟩ : ByteArray) 0 ([] : List Int) [(Form.mk 3 (⟨#[]⟩ : ByteArray) 0 ([] : List Int) [(Form.mk 1 (⟨#[95]⟩ : ByteArray) 0 ([] : List Int) ([] : List Form)), (Form.mk 1 (⟨#[101, 108, 115, 101]⟩ : ByteArray) 0 ([] : List Int) ([] : List Form)), (Form.mk 1 (⟨#[101]⟩ : ByteArray) 0 ([] : List Int) ([] : List Form))]), (Form.mk 1 (⟨#[101]⟩ : ByteArray) 0 ([] : List Int) ([] : List Form))]), (Form.mk 3 (⟨#[]⟩ : ByteArray) 0 ([] : List Int) [(Form.mk 3 (⟨#[]⟩ : ByteArray) 0 ([] : List Int) [(Form.mk 1 (⟨#[95]⟩ : ByteArray) 0 ([] : List Int) ([] : List Form)), (Form.mk 1 (⟨#[99]⟩ : ByteArray) 0 ([] : List Int) ([] : List Form)), (Form.mk 1 (⟨#[101]⟩ : ByteArray) 0 ([] : List Int) ([] : List Form)), (Form.mk 1 (⟨#[114]⟩ : ByteArray) 0 ([] : List Int) ([] : List Form)), (Form.mk 1 (⟨#[46, 46, 46]⟩ : ByteArray) 0 ([] : List Int) ([] : List Form))]), (Form.mk 3 (⟨#[]⟩ : ByteArray) 0 ([] : List Int) [(Form.mk 1 (⟨#[105, 102]⟩ : ByteArray) 0 ([] : List Int) ([] : List Form)), (Form.mk 1 (⟨#[99]⟩ : ByteArray) 0 ([] : List Int) ([] : List Form)), (Form.mk 1 (⟨#[101]⟩ : ByteArray) 0 ([] : List Int) ([] : List Form)), (Form.mk 3 (⟨#[]⟩ : ByteArray) 0 ([] : List Int) [(Form.mk 1 (⟨#[99, 111, 110, 100]⟩ : ByteArray) 0 ([] : List Int) ([] : List Form)), (Form.mk 1 (⟨#[114]⟩ : ByteArray) 0 ([] : List Int) ([] : List Form)), (Form.mk 1 (⟨#[46, 46, 46]⟩ : ByteArray) 0 ([] : List Int) ([] : List Form))])])])])
theorem t5P6 : Parsed (⟨#[40, 114, 117, 108, 101, 115, 32, 40, 101, 108, 115, 101, 41, 32, 40, 40, 95, 32, 101, 108, 115, 101, 32, 101, 41, 32, 101, 41, 32, 40, 40, 95, 32, 99, 32, 101, 32, 114, 32, 46, 46, 46, 41, 32, 40, 105, 102, 32, 99, 32, 101, 32, 40, 99, 111, 110, 100, 32, 114, 32, 46, 46, 46, 41, 41, 41, 41]⟩ : ByteArray) t5F6 := ⟨Tr.add 100 (fun m => by kernel_rfl), of_decide_eq_true (by kernel_rfl), Form.fitB_fit (by kernel_rfl)⟩
def t5F7 : Form := (Form.mk 3 (⟨#[]⟩ : ByteArray) 0 ([] : List Int) [(Form.mk 1 (⟨#[99, 111, 110, 100]⟩ : ByteArray) 0 ([] : List Int) ([] : List Form)), (Form.mk 1 (⟨#[112]⟩ : ByteArray) 0 ([] : List Int) ([] : List Form)), (Form.mk 2 (⟨#[]⟩ : ByteArray) 1 ([] : List Int) ([] : List Form)), (Form.mk 1 (⟨#[101, 108, 115, 101]⟩ : ByteArray) 0 ([] : List Int) ([] : List Form)), (Form.mk 2 (⟨#[]⟩ : ByteArray) 2 ([] : List Int) ([] : List Form))])
theorem t5P7 : Parsed (⟨#[40, 99, 111, 110, 100, 32, 112, 32, 49, 32, 101, 108, 115, 101, 32, 50, 41]⟩ : ByteArray) t5F7 := ⟨Tr.add 100 (fun m => by kernel_rfl), of_decide_eq_true (by kernel_rfl), Form.fitB_fit (by kernel_rfl)⟩
def t5F8 : Form := (Form.mk 3 (⟨#[]⟩ : ByteArray) 0 ([] : List Int) [(Form.mk 1 (⟨#[114, 117, 108, 101, 115]⟩ : ByteArray) 0 ([] : List Int) ([] : List Form)), (Form.mk 3 (⟨#[]⟩ : ByteArray) 0 ([] : List Int) ([] : List Form)), (Form.mk 3 (⟨#[]⟩ : ByteArray) 0 ([] : List Int) [(Form.mk 3 (⟨#[]⟩ : ByteArray) 0 ([] : List Int) [(Form.mk 1 (⟨#[95]⟩ : ByteArray) 0 ([] : List Int) ([] : List Form)), (Form.mk 3 (⟨#[]⟩ : ByteArray) 0 ([] : List Int) [(Form.mk 1 (⟨#[97]⟩ : ByteArray) 0 ([] : List Int) ([] : List Form)), (Form.mk 1 (⟨#[98]⟩ : ByteArray) 0 ([] : List Int) ([] : List Form)), (Form.mk 1 (⟨#[46, 46, 46]⟩ : ByteArray) 0 ([] : List Int) ([] : List Form))]), (Form.mk 1 (⟨#[46, 46, 46]⟩ : ByteArray) 0 ([] : List Int) ([] : List Form))]), (Form.mk 3 (⟨#[]⟩ : ByteArray) 0 ([] : List Int) [(Form.mk 1 (⟨#[109]⟩ : ByteArray) 0 ([] : List Int) ([] : List Form)), (Form.mk 3 (⟨#[]⟩ : ByteArray) 0 ([] : List Int) [(Form.mk 1 (⟨#[97]⟩ : ByteArray) 0 ([] : List Int) ([] : List Form)), (Form.mk 1 (⟨#[46, 46, 46]⟩ : ByteArray) 0 ([] : List Int) ([] : List Form))]), (Form.mk 3 (⟨#[]⟩ : ByteArray) 0 ([] : List Int) [(Form.mk 3 (⟨#[]⟩ : ByteArray) 0 ([] : List Int) [(Form.mk 1 (⟨#[97]⟩ : ByteArray) 0 ([] : List Int) ([] : List Form)), (Form.mk 1 (⟨#[98]⟩ : ByteArray) 0 ([] : List Int) ([] : List Form)), (Form.mk 1 (⟨#[46, 46, 46]⟩ : ByteArray) 0 ([] : List Int) ([] : List Form))]), (Form.mk 1 (⟨#[46, 46, 46]⟩ : ByteArray) 0 ([] : List Int) ([] : List Form))]), (Form.mk 2 (⟨#[]⟩ : ByteArray) 1 ([] : List Int) ([] : List Form))])])])
theorem t5P8 : Parsed (⟨#[40, 114, 117, 108, 101, 115, 32, 40, 41, 32, 40, 40, 95, 32, 40, 97, 32, 98, 32, 46, 46, 46, 41, 32, 46, 46, 46, 41, 32, 40, 109, 32, 40, 97, 32, 46, 46, 46, 41, 32, 40, 40, 97, 32, 98, 32, 46, 46, 46, 41, 32, 46, 46, 46, 41, 32, 49, 41, 41, 41]⟩ : ByteArray) t5F8 := ⟨Tr.add 100 (fun m => by kernel_rfl), of_decide_eq_true (by kernel_rfl), Form.fitB_fit (by kernel_rfl)⟩
def t5F9 : Form := (Form.mk 3 (⟨#[]⟩ : ByteArray) 0 ([] : List Int) [(Form.mk 1 (⟨#[109]⟩ : ByteArray) 0 ([] : List Int) ([] : List Form)), (Form.mk 3 (⟨#[]⟩ : ByteArray) 0 ([] : List Int) [(Form.mk 1 (⟨#[120]⟩ : ByteArray) 0 ([] : List Int) ([] : List Form)), (Form.mk 2 (⟨#[]⟩ : ByteArray) 1 ([] : List Int) ([] : List Form)), (Form.mk 2 (⟨#[]⟩ : ByteArray) 2 ([] : List Int) ([] : List Form))]), (Form.mk 3 (⟨#[]⟩ : ByteArray) 0 ([] : List Int) [(Form.mk 1 (⟨#[121]⟩ : ByteArray) 0 ([] : List Int) ([] : List Form))])])
theorem t5P9 : Parsed (⟨#[40, 109, 32, 40, 120, 32, 49, 32, 50, 41, 32, 40, 121, 41, 41]⟩ : ByteArray) t5F9 := ⟨Tr.add 100 (fun m => by kernel_rfl), of_decide_eq_true (by kernel_rfl), Form.fitB_fit (by kernel_rfl)⟩
def t5F10 : Form := (Form.mk 3 (⟨#[]⟩ : ByteArray) 0 ([] : List Int) [(Form.mk 1 (⟨#[114, 117, 108, 101, 115]⟩ : ByteArray) 0 ([] : List Int) ([] : List Form)), (Form.mk 3 (⟨#[]⟩ : ByteArray) 0 ([] : List Int) ([] : List Form)), (Form.mk 3 (⟨#[]⟩ : ByteArray) 0 ([] : List Int) [(Form.mk 3 (⟨#[]⟩ : ByteArray) 0 ([] : List Int) [(Form.mk 1 (⟨#[95]⟩ : ByteArray) 0 ([] : List Int) ([] : List Form)), (Form.mk 1 (⟨#[97]⟩ : ByteArray) 0 ([] : List Int) ([] : List Form)), (Form.mk 1 (⟨#[46, 46, 46]⟩ : ByteArray) 0 ([] : List Int) ([] : List Form))]), (Form.mk 3 (⟨#[]⟩ : ByteArray) 0 ([] : List Int) [(Form.mk 1 (⟨#[108, 105, 115, 116]⟩ : ByteArray) 0 ([] : List Int) ([] : List Form)), (Form.mk 1 (⟨#[97]⟩ : ByteArray) 0 ([] : List Int) ([] : List Form)), (Form.mk 1 (⟨#[46, 46, 46]⟩ : ByteArray) 0 ([] : List Int) ([] : List Form)), (Form.mk 1 (⟨#[97]⟩ : ByteArray) 0 ([] : List Int) ([] : List Form)), (Form.mk 1 (⟨#[46, 46, 46]⟩ : ByteArray) 0 ([] : List Int) ([] : List Form))])])])
theorem t5P10 : Parsed (⟨#[40, 114, 117, 108, 101, 115, 32, 40, 41, 32, 40, 40, 95, 32, 97, 32, 46, 46, 46, 41, 32, 40, 108, 105, 115, 116, 32, 97, 32, 46, 46, 46, 32, 97, 32, 46, 46, 46, 41, 41, 41]⟩ : ByteArray) t5F10 := ⟨Tr.add 100 (fun m => by kernel_rfl), of_decide_eq_true (by kernel_rfl), Form.fitB_fit (by kernel_rfl)⟩
def t5F11 : Form := (Form.mk 3 (⟨#[]⟩ : ByteArray) 0 ([] : List Int) [(Form.mk 1 (⟨#[116, 119, 105, 99, 101]⟩ : ByteArray) 0 ([] : List Int) ([] : List Form)), (Form.mk 2 (⟨#[]⟩ : ByteArray) 1 ([] : List Int) ([] : List Form)), (Form.mk 2 (⟨#[]⟩ : ByteArray) 2 ([] : List Int) ([] : List Form))])
theorem t5P11 : Parsed (⟨#[40, 116, 119, 105, 99, 101, 32, 49, 32, 50, 41]⟩ : ByteArray) t5F11 := ⟨Tr.add 100 (fun m => by kernel_rfl), of_decide_eq_true (by kernel_rfl), Form.fitB_fit (by kernel_rfl)⟩
def t5F12 : Form := (Form.mk 3 (⟨#[]⟩ : ByteArray) 0 ([] : List Int) [(Form.mk 1 (⟨#[114, 117, 108, 101, 115]⟩ : ByteArray) 0 ([] : List Int) ([] : List Form)), (Form.mk 3 (⟨#[]⟩ : ByteArray) 0 ([] : List Int) ([] : List Form)), (Form.mk 3 (⟨#[]⟩ : ByteArray) 0 ([] : List Int) [(Form.mk 3 (⟨#[]⟩ : ByteArray) 0 ([] : List Int) [(Form.mk 1 (⟨#[95]⟩ : ByteArray) 0 ([] : List Int) ([] : List Form)), (Form.mk 1 (⟨#[97]⟩ : ByteArray) 0 ([] : List Int) ([] : List Form)), (Form.mk 1 (⟨#[46, 46, 46]⟩ : ByteArray) 0 ([] : List Int) ([] : List Form))]), (Form.mk 3 (⟨#[]⟩ : ByteArray) 0 ([] : List Int) [(Form.mk 3 (⟨#[]⟩ : ByteArray) 0 ([] : List Int) [(Form.mk 1 (⟨#[97]⟩ : ByteArray) 0 ([] : List Int) ([] : List Form)), (Form.mk 2 (⟨#[]⟩ : ByteArray) 1 ([] : List Int) ([] : List Form))]), (Form.mk 1 (⟨#[46, 46, 46]⟩ : ByteArray) 0 ([] : List Int) ([] : List Form))])]), (Form.mk 3 (⟨#[]⟩ : ByteArray) 0 ([] : List Int) [(Form.mk 3 (⟨#[]⟩ : ByteArray) 0 ([] : List Int) [(Form.mk 1 (⟨#[95]⟩ : ByteArray) 0 ([] : List Int) ([] : List Form)), (Form.mk 1 (⟨#[98]⟩ : ByteArray) 0 ([] : List Int) ([] : List Form))]), (Form.mk 1 (⟨#[98]⟩ : ByteArray) 0 ([] : List Int) ([] : List Form))])])
theorem t5P12 : Parsed (⟨#[40, 114, 117, 108, 101, 115, 32, 40, 41, 32, 40, 40, 95, 32, 97, 32, 46, 46, 46, 41, 32, 40, 40, 97, 32, 49, 41, 32, 46, 46, 46, 41, 41, 32, 40, 40, 95, 32, 98, 41, 32, 98, 41, 41]⟩ : ByteArray) t5F12 := ⟨Tr.add 100 (fun m => by kernel_rfl), of_decide_eq_true (by kernel_rfl), Form.fitB_fit (by kernel_rfl)⟩
def t5F13 : Form := (Form.mk 3 (⟨#[]⟩ : ByteArray) 0 ([] : List Int) [(Form.mk 1 (⟨#[112, 97, 105, 114, 115]⟩ : ByteArray) 0 ([] : List Int) ([] : List Form)), (Form.mk 1 (⟨#[112]⟩ : ByteArray) 0 ([] : List Int) ([] : List Form)), (Form.mk 1 (⟨#[113]⟩ : ByteArray) 0 ([] : List Int) ([] : List Form))])
theorem t5P13 : Parsed (⟨#[40, 112, 97, 105, 114, 115, 32, 112, 32, 113, 41]⟩ : ByteArray) t5F13 := ⟨Tr.add 100 (fun m => by kernel_rfl), of_decide_eq_true (by kernel_rfl), Form.fitB_fit (by kernel_rfl)⟩
def t5F14 : Form := (Form.mk 3 (⟨#[]⟩ : ByteArray) 0 ([] : List Int) [(Form.mk 1 (⟨#[114, 117, 108, 101, 115]⟩ : ByteArray) 0 ([] : List Int) ([] : List Form)), (Form.mk 3 (⟨#[]⟩ : ByteArray) 0 ([] : List Int) ([] : List Form)), (Form.mk 3 (⟨#[]⟩ : ByteArray) 0 ([] : List Int) [(Form.mk 3 (⟨#[]⟩ : ByteArray) 0 ([] : List Int) [(Form.mk 1 (⟨#[95]⟩ : ByteArray) 0 ([] : List Int) ([] : List Form)), (Form.mk 1 (⟨#[97]⟩ : ByteArray) 0 ([] : List Int) ([] : List Form))]), (Form.mk 1 (⟨#[97]⟩ : ByteArray) 0 ([] : List Int) ([] : List Form))]), (Form.mk 3 (⟨#[]⟩ : ByteArray) 0 ([] : List Int) [(Form.mk 3 (⟨#[]⟩ : ByteArray) 0 ([] : List Int) [(Form.mk 1 (⟨#[95]⟩ : ByteArray) 0 ([] : List Int) ([] : List Form)), (Form.mk 2 (⟨#[]⟩ : ByteArray) 5 ([] : List Int) ([] : List Form))]), (Form.mk 2 (⟨#[]⟩ : ByteArray) 6 ([] : List Int) ([] : List Form))]), (Form.mk 3 (⟨#[]⟩ : ByteArray) 0 ([] : List Int) [(Form.mk 3 (⟨#[]⟩ : ByteArray) 0 ([] : List Int) [(Form.mk 1 (⟨#[95]⟩ : ByteArray) 0 ([] : List Int) ([] : List Form)), (Form.mk 1 (⟨#[97]⟩ : ByteArray) 0 ([] : List Int) ([] : List Form)), (Form.mk 1 (⟨#[98]⟩ : ByteArray) 0 ([] : List Int) ([] : List Form))]), (Form.mk 1 (⟨#[98]⟩ : ByteArray) 0 ([] : List Int) ([] : List Form))])])
theorem t5P14 : Parsed (⟨#[40, 114, 117, 108, 101, 115, 32, 40, 41, 32, 40, 40, 95, 32, 97, 41, 32, 97, 41, 32, 40, 40, 95, 32, 53, 41, 32, 54, 41, 32, 40, 40, 95, 32, 97, 32, 98, 41, 32, 98, 41, 41]⟩ : ByteArray) t5F14 := ⟨Tr.add 100 (fun m => by kernel_rfl), of_decide_eq_true (by kernel_rfl), Form.fitB_fit (by kernel_rfl)⟩
def t5F15 : Form := (Form.mk 3 (⟨#[]⟩ : ByteArray) 0 ([] : List Int) [(Form.mk 1 (⟨#[107]⟩ : ByteArray) 0 ([] : List Int) ([] : List Form)), (Form.mk 2 (⟨#[]⟩ : ByteArray) 5 ([] : List Int) ([] : List Form))])
theorem t5P15 : Parsed (⟨#[40, 107, 32, 53, 41]⟩ : ByteArray) t5F15 := ⟨Tr.add 100 (fun m => by kernel_rfl), of_decide_eq_true (by kernel_rfl), Form.fitB_fit (by kernel_rfl)⟩
def t5T : List (List ByteArray) := [[(⟨#[40, 114, 117, 108, 101, 115, 32, 40, 41, 32, 40, 40, 95, 32, 97, 32, 98, 41, 32, 40, 108, 101, 116, 32, 40, 40, 116, 109, 112, 32, 97, 41, 41, 32, 40, 108, 105, 115, 116, 32, 98, 32, 116, 109, 112, 41, 41, 41, 41]⟩ : ByteArray), (⟨#[40, 115, 119, 97, 112, 32, 120, 32, 121, 41]⟩ : ByteArray)], [(⟨#[40, 114, 117, 108, 101, 115, 32, 40, 41, 32, 40, 40, 95, 41, 32, 48, 41, 32, 40, 40, 95, 32, 97, 41, 32, 97, 41, 32, 40, 40, 95, 32, 97, 32, 98, 32, 46, 46, 46, 41, 32, 40, 105, 102, 32, 97, 32, 49, 32, 40, 111, 114, 32, 98, 32, 46, 46, 46, 41, 41, 41, 41]⟩ : ByteArray), (⟨#[40, 111, 114, 32, 120, 32, 121, 32, 122, 41]⟩ : ByteArray)], [(⟨#[40, 114, 117, 108, 101, 115, 32, 40, 41, 32, 40, 40, 95, 32, 40, 40, 120, 32, 118, 41, 32, 46, 46, 46, 41, 32, 98, 111, 100, 121, 41, 32, 40, 40, 108, 97, 109, 98, 100, 97, 32, 40, 120, 32, 46, 46, 46, 41, 32, 98, 111, 100, 121, 41, 32, 118, 32, 46, 46, 46, 41, 41, 41]⟩ : ByteArray), (⟨#[40, 109, 121, 108, 101, 116, 32, 40, 40, 112, 32, 49, 41, 32, 40, 113, 32, 50, 41, 41, 32, 40, 102, 32, 112, 32, 113, 41, 41]⟩ : ByteArray)], [(⟨#[40, 114, 117, 108, 101, 115, 32, 40, 101, 108, 115, 101, 41, 32, 40, 40, 95, 32, 101, 108, 115, 101, 32, 101, 41, 32, 101, 41, 32, 40, 40, 95, 32, 99, 32, 101, 32, 114, 32, 46, 46, 46, 41, 32, 40, 105, 102, 32, 99, 32, 101, 32, 40, 99, 111, 110, 100, 32, 114, 32, 46, 46, 46, 41, 41, 41, 41]⟩ : ByteArray), (⟨#[40, 99, 111, 110, 100, 32, 112, 32, 49, 32, 101, 108, 115, 101, 32, 50, 41]⟩ : ByteArray)], [(⟨#[40, 114, 117, 108, 101, 115, 32, 40, 41, 32, 40, 40, 95, 32, 40, 97, 32, 98, 32, 46, 46, 46, 41, 32, 46, 46, 46, 41, 32, 40, 109, 32, 40, 97, 32, 46, 46, 46, 41, 32, 40, 40, 97, 32, 98, 32, 46, 46, 46, 41, 32, 46, 46, 46, 41, 32, 49, 41, 41, 41]⟩ : ByteArray), (⟨#[40, 109, 32, 40, 120, 32, 49, 32, 50, 41, 32, 40, 121, 41, 41]⟩ : ByteArray)], [(⟨#[40, 114, 117, 108, 101, 115, 32, 40, 41, 32, 40, 40, 95, 32, 97, 32, 46, 46, 46, 41, 32, 40, 108, 105, 115, 116, 32, 97, 32, 46, 46, 46, 32, 97, 32, 46, 46, 46, 41, 41, 41]⟩ : ByteArray), (⟨#[40, 116, 119, 105, 99, 101, 32, 49, 32, 50, 41]⟩ : ByteArray)], [(⟨#[40, 114, 117, 108, 101, 115, 32, 40, 41, 32, 40, 40, 95, 32, 97, 32, 46, 46, 46, 41, 32, 40, 40, 97, 32, 49, 41, 32, 46, 46, 46, 41, 41, 32, 40, 40, 95, 32, 98, 41, 32, 98, 41, 41]⟩ : ByteArray), (⟨#[40, 112, 97, 105, 114, 115, 32, 112, 32, 113, 41]⟩ : ByteArray)], [(⟨#[40, 114, 117, 108, 101, 115, 32, 40, 41, 32, 40, 40, 95, 32, 97, 41, 32, 97, 41, 32, 40, 40, 95, 32, 53, 41, 32, 54, 41, 32, 40, 40, 95, 32, 97, 32, 98, 41, 32, 98, 41, 41]⟩ : ByteArray), (⟨#[40, 107, 32, 53, 41]⟩ : ByteArray)]]
theorem t5T_tr : Tr (fun m => m_spec_l5Texts m) t5T := Tr.of (fun m => rfl)
theorem t5T_all : Pairs [(t5F0, t5F1), (t5F2, t5F3), (t5F4, t5F5), (t5F6, t5F7), (t5F8, t5F9), (t5F10, t5F11), (t5F12, t5F13), (t5F14, t5F15)] t5T := ⟨_, _, rfl, ⟨_, _, rfl, t5P0, t5P1⟩, ⟨_, _, rfl, ⟨_, _, rfl, t5P2, t5P3⟩, ⟨_, _, rfl, ⟨_, _, rfl, t5P4, t5P5⟩, ⟨_, _, rfl, ⟨_, _, rfl, t5P6, t5P7⟩, ⟨_, _, rfl, ⟨_, _, rfl, t5P8, t5P9⟩, ⟨_, _, rfl, ⟨_, _, rfl, t5P10, t5P11⟩, ⟨_, _, rfl, ⟨_, _, rfl, t5P12, t5P13⟩, ⟨_, _, rfl, ⟨_, _, rfl, t5P14, t5P15⟩, rfl⟩⟩⟩⟩⟩⟩⟩⟩
end Go.Abs
end
section
set_option linter.unusedVariables false
set_option linter.unusedSimpArgs false
namespace Go.Abs
theorem Tr.uniq {α : Type} {F : Nat → Option α} {v w : α} (h1 : Tr F v) (h2 : Tr F w) : v = w := by
  obtain ⟨n1, h1⟩ := h1
  obtain ⟨n2, h2⟩ := h2
  have a := h1 (n1 + n2) (by omega)
  rw [h2 (n1 + n2) (by omega)] at a
  exact (Option.some.inj a).symm
theorem TQ.and {α : Type} {F : Nat → Option α} {Q R : α → Prop} (h1 : TQ F Q) (h2 : TQ F R) : TQ F (fun r => Q r ∧ R r) := by
  obtain ⟨v, h1, q⟩ := h1
  obtain ⟨w, h2, r⟩ := h2
  obtain rfl := h1.uniq h2
  exact ⟨v, h1, q, r⟩
theorem TQ.of_tr {α : Type} {F : Nat → Option α} {Q : α → Prop} {v : α} (h : Tr F v) (hq : TQ F Q) : Q v := by
  obtain ⟨w, h2, q⟩ := hq
  obtain rfl := h.uniq h2
  exact q
theorem l1Mutate_len (c : Form) (o : l15Rd) (K : Int) (ho : OkRd o K) (hb : c.w ≤ 2 ^ 30) (hf : c.fit) (hK : K + 3 * c.w ≤ 1000000000) : TQ (fun m => m_spec_l1Mutate m o c) (fun r => r.1.kids.length = c.kids.length) := by
  have hw := c.w_kids
  obtain ⟨f1, f2, f3, f4⟩ := hf.parts
  have leaf : ∀ (o : l15Rd) (K : Int), OkRd o K → K + 2 ≤ 1000000000 → TQ (mutF c o) (fun r => r.1.kids.length = c.kids.length) := by
    intro o K ho hK
    unfold mutF
    refine TQ.bind (pick_tq o 14 _ ho (by omega)) (fun v hv => ?_)
    refine TQ.cond (fun _ => ?_) (fun _ => TQ.cond (fun _ => ?_) (fun _ => TQ.cond (fun _ => ?_) (fun _ => TQ.cond (fun _ => ?_) (fun _ => ?_))))
    · exact TQ.bind (num_tq _ _ _ hv.1 (by omega) (by decide)) (fun w hw => TQ.val rfl)
    · exact TQ.bind (of_tq _ _ _ hv.1 (by omega) (by decide)) (fun w hw => TQ.val rfl)
    · exact TQ.bind (num_tq _ _ _ hv.1 (by omega) (by decide)) (fun w hw => TQ.val rfl)
    · exact TQ.bind (num_tq _ _ _ hv.1 (by omega) (by decide)) (fun w hw => TQ.chk (by simp; omega) (TQ.val rfl))
    · exact TQ.val rfl
  refine TQ.step (fun m => by rw [m_spec_l1Mutate]) ?_
  refine TQ.ev (l1Copy_tr _ c (Nat.le_refl _) (by omega)) ?_
  refine TQ.cond (fun hc => ?_) (fun _ => leaf o K ho (by omega))
  have hpos : 0 < c.kids.length := by simpa using hc
  have hl := Form.ws_len c.kids
  refine TQ.bind (pick_tq o 2 _ ho (by omega)) (fun v hv => ?_)
  refine TQ.cond (fun _ => ?_) (fun _ => leaf _ _ hv.1 (by omega))
  refine TQ.bind (pick_tq _ _ _ hv.1 (by omega)) (fun w hw2 => ?_)
  obtain ⟨h1, _, h2, _⟩ := hw2
  obtain ⟨h2, h3⟩ := h2 (by omega)
  obtain ⟨x, hx, hm⟩ := idx_int h2 h3
  have hxw := Form.ws_mem hm
  obtain ⟨r, hr, _⟩ := l1Mutate_tq _ x w.2 _ (Nat.le_refl _) h1 (by omega) (Form.fits_mem f4 hm) (by omega)
  exact ⟨_, Tr.idx hx (Tr.bind hr (Tr.idx hx Tr.val)), by show (c.kids.set _ _).length = _; rw [List.length_set]⟩
theorem mutate2_len (c : Form) (o : l15Rd) (K : Int) (ho : OkRd o K) (hc : Dr 1000 c) (hK : K ≤ 1000000) {β : Type} {g : Form → l15Rd → Nat → Option β} {R : β → Prop}
    (h : ∀ f o', OkRd o' (K + 7000) → Dr (c.w + 2) f → f.kids.length = c.kids.length → TQ (fun m => g f o' m) R) : TQ (fun m => (m_spec_l1Mutate m o c).bind fun v => (m_spec_l1Mutate m v.2 v.1).bind fun u => g u.1 u.2 m) R := by
  have h1 := hc.w
  refine TQ.bind (TQ.and (l1Mutate_tq _ c o K (Nat.le_refl _) ho (by omega) hc.fit (by omega)) (l1Mutate_len c o K ho (by omega) hc.fit (by omega))) (fun v hv => ?_)
  obtain ⟨⟨v1, v2, v3⟩, v4⟩ := hv
  refine TQ.bind (TQ.and (l1Mutate_tq _ v.1 v.2 _ (Nat.le_refl _) v1 (by omega) v3 (by omega)) (l1Mutate_len v.1 v.2 _ v1 (by omega) v3 (by omega))) (fun u hu => ?_)
  obtain ⟨⟨u1, u2, u3⟩, u4⟩ := hu
  exact h _ _ (u1.mono (by omega)) ⟨by omega, u3⟩ (by omega)
noncomputable def rulesOkB (rules : List Rule) (lits : List Form) : Bool := alls (fun r => ruleOk r lits) rules && (decide ((rules.length : Int) ≤ 9) && litOk lits)
structure DrR (n : Nat) (r : Rule) : Prop where
  p : Dr n r.pattern
  t : Dr n r.template
theorem l5Rules_tr (rules : List Rule) (lits : List Form) (hr : ∀ r ∈ rules, DrR (2 ^ 36) r) (hl : Form.fits lits) (hlb : Form.ws lits ≤ 2 ^ 36) : Tr (fun m => m_spec_l5Rules m rules lits) (rulesOkB rules lits) := by
  refine Tr.eq (fun m => by unfold m_spec_l5Rules; rfl) ?_
  have key := drop_ind rules (fun k zs => (∀ z ∈ zs, z ∈ rules) → Tr (fun m => m_spec_l5Rules_l1 m rules lits (k : Int)) (alls (fun r => ruleOk r lits) zs && (decide ((rules.length : Int) ≤ 9) && litOk lits))) ?_ ?_ 0 (Nat.zero_le _) (fun z hz => by simpa using hz)
  · exact key
  · intro _
    refine Tr.step (fun m => by rw [m_spec_l5Rules_l1, ltN_self, cond_false]) (Tr.step (fun m => by rw [m_spec_l5Rules_j2, cond_false]) ?_)
    rw [alls, Bool.true_and]
    by_cases h9 : (rules.length : Int) ≤ 9
    · rw [decide_eq_true h9, Bool.true_and]
      exact Tr.tt (decide_eq_true (by omega)) (Tr.bind (specLit_tr lits hl hlb) Tr.val)
    · rw [decide_eq_false h9, Bool.false_and]
      exact Tr.ff (decide_eq_false (by omega)) Tr.val
  · intro k x zs hk hx hd ih hz
    have hxr := hr x (hz x (by simp))
    refine Tr.step (fun m => by rw [m_spec_l5Rules_l1, ltN hk, cond_true]) ?_
    by_cases h10 : (k : Int) < 10
    · refine Tr.step (fun m => by rw [m_spec_l5Rules_j2, decide_eq_true h10, cond_true, idx_nat hx, Option.bind_some]) ?_
      have hsr := specRuleValid_tr x lits hxr.p.fit hxr.p.w hxr.t.fit hxr.t.w hl hlb
      have hsr2 : Tr (fun m => m_spec_l5Rule m x lits) (ruleOk x lits) := by
        obtain ⟨n, h⟩ := hsr
        refine ⟨n, fun m hm => ?_⟩
        have := h m hm
        unfold m_spec_RuleValid at this
        show m_spec_l5Rule m x lits = _
        replace this : (m_spec_l5Rule m x lits).bind (fun v1 => some v1) = some (ruleOk x lits) := this
        cases h5 : m_spec_l5Rule m x lits with
        | none => rw [h5] at this; cases this
        | some b => rw [h5] at this; exact this
      refine Tr.bind hsr2 ?_
      rw [alls]
      cases ruleOk x lits with
      | false => exact Tr.tt rfl Tr.val
      | true => exact Tr.ff rfl (Tr.eq (fun m => by rw [w64_in (by omega), succN]) (ih (fun z h => hz z (by simp [h]))))
    · refine Tr.step (fun m => by rw [m_spec_l5Rules_j2, decide_eq_false h10, cond_false]) ?_
      rw [decide_eq_false (show ¬ (rules.length : Int) ≤ 9 by omega), Bool.false_and, Bool.and_false]
      exact Tr.ff (decide_eq_false (by omega)) Tr.val
def ruleOf (x : Form) : Rule := Rule.mk (x.kids.getD 0 form0) (x.kids.getD 1 form0)
def ruleShape (x : Form) : Bool := decide (x.kind = 3) && decide (x.kids.length = 2)
def rulesN : ByteArray := ⟨#[114, 117, 108, 101, 115]⟩
def isRules (f : Form) : Bool := f.valid && (decide (f.kind = 3) && (decide (2 ≤ f.kids.length) && (decide ((f.kids.getD 0 form0).name = rulesN) && decide ((f.kids.getD 1 form0).kind = 3))))
noncomputable def parseR (f : Form) : List Form × List Rule × Bool :=
  bif isRules f then
    bif alls ruleShape (f.kids.drop 2) then
      bif rulesOkB ((f.kids.drop 2).map ruleOf) (f.kids.getD 1 form0).kids then ((f.kids.getD 1 form0).kids, (f.kids.drop 2).map ruleOf, true) else ([], [], false)
    else ([], [], false)
  else ([], [], false)
theorem getD_mem {α : Type} {l : List α} {k : Nat} {d : α} (h : k < l.length) : l[k]? = some (l.getD k d) ∧ l.getD k d ∈ l := by
  have : l[k]? = some (l.getD k d) := by rw [List.getD_eq_getElem?_getD, List.getElem?_eq_getElem h]; rfl
  exact ⟨this, List.mem_of_getElem? this⟩
theorem kid_dr {n : Nat} {f x : Form} (h : Dr n f) (hx : x ∈ f.kids) : Dr n x := ⟨by have := Form.ws_mem hx; have := f.w_kids; have := h.w; omega, Form.fits_mem h.fit.parts.2.2.2 hx⟩
theorem ruleOf_dr {n : Nat} {x : Form} (h : Dr n x) (hs : ruleShape x = true) : DrR n (ruleOf x) := by
  unfold ruleShape at hs
  rw [Bool.and_eq_true, decide_eq_true_eq, decide_eq_true_eq] at hs
  exact ⟨kid_dr h (getD_mem (by omega)).2, kid_dr h (getD_mem (by omega)).2⟩
theorem specParseRules_tr (f : Form) (hf : Dr (2 ^ 30) f) : Tr (fun m => m_spec_ParseRules m f) (parseR f) := by
  have hw := f.w_kids
  have hfw := hf.w
  have hfl := Form.ws_len f.kids
  refine Tr.eq (fun m => by unfold m_spec_ParseRules; rfl) (Tr.bind (specFormValid_tr f hf.fit (by omega)) ?_)
  have no : Tr (fun m => m_spec_ParseRules_j1 m f true) (([] : List Form), ([] : List Rule), false) := Tr.step (fun m => by rw [m_spec_ParseRules_j1]; rfl) Tr.val
  unfold parseR isRules
  cases f.valid with
  | false => exact Tr.tt rfl no
  | true =>
  refine Tr.ff rfl ?_
  by_cases h3 : f.kind = 3
  case neg => rw [decide_eq_false h3]; exact Tr.tt (by simpa using h3) no
  rw [decide_eq_true h3]
  refine Tr.ff (by simpa using h3) ?_
  by_cases h2 : 2 ≤ f.kids.length
  case neg => rw [decide_eq_false h2]; exact Tr.tt (decide_eq_true (by omega)) no
  rw [decide_eq_true h2]
  obtain ⟨g0, m0⟩ := getD_mem (l := f.kids) (k := 0) (d := form0) (by omega)
  obtain ⟨g1, m1⟩ := getD_mem (l := f.kids) (k := 1) (d := form0) (by omega)
  generalize hk0 : f.kids.getD 0 form0 = k0 at g0 m0
  generalize hk1 : f.kids.getD 1 form0 = k1 at g1 m1
  have i0 : idx f.kids 0 = some k0 := idx_nat g0
  have i1 : idx f.kids 1 = some k1 := idx_nat g1
  refine Tr.ff (decide_eq_false (by omega)) (Tr.eq (fun m => by rw [i0, Option.bind_some]) ?_)
  by_cases hn : k0.name = rulesN
  case neg => rw [decide_eq_false hn]; exact Tr.tt (decide_eq_true hn) no
  rw [decide_eq_true hn]
  refine Tr.ff (decide_eq_false (not_not_intro hn)) (Tr.eq (fun m => by rw [i1, Option.bind_some]) ?_)
  by_cases hk : k1.kind = 3
  case neg => rw [decide_eq_false hk]; exact Tr.eq (fun m => by rw [decide_eq_true (show k1.kind ≠ 3 from hk)]) no
  rw [decide_eq_true hk]
  refine Tr.step (fun m => by rw [m_spec_ParseRules_j1, decide_eq_false (show ¬ k1.kind ≠ 3 by simp [hk]), cond_false]) ?_
  rw [Bool.and_true, Bool.and_true, Bool.and_true, Bool.and_true, cond_true]
  have d1 := kid_dr hf m1
  have d1w := d1.w
  have k1w := k1.w_kids
  have k1l := Form.ws_len k1.kids
  -- what comes behind the literals
  have tail : Tr (fun m => m_spec_ParseRules_j2 m f k1.kids) (bif alls ruleShape (f.kids.drop 2) then
      bif rulesOkB ((f.kids.drop 2).map ruleOf) k1.kids then (k1.kids, (f.kids.drop 2).map ruleOf, true) else ([], [], false)
    else ([], [], false)) := by
    refine Tr.step (fun m => by rw [m_spec_ParseRules_j2]) ?_
    have key : ∀ (zs : List Form) (k : Nat) (rs : List Rule), f.kids.drop k = zs → rs.length ≤ k → alls ruleShape zs = alls ruleShape (f.kids.drop 2) → (alls ruleShape zs = true → rs ++ zs.map ruleOf = (f.kids.drop 2).map ruleOf) → Tr (fun m => m_spec_ParseRules_l5 m f k1.kids rs (k : Int)) (bif alls ruleShape (f.kids.drop 2) then
      bif rulesOkB ((f.kids.drop 2).map ruleOf) k1.kids then (k1.kids, (f.kids.drop 2).map ruleOf, true) else ([], [], false)
    else ([], [], false)) := by
      intro zs
      induction zs with
      | nil =>
        intro k rs hd hr ha he
        have hk' : ¬ k < f.kids.length := by have := congrArg List.length hd; rw [List.length_drop] at this; simp at this; omega
        rw [← ha]
        have he2 := he rfl
        rw [List.map_nil, List.append_nil] at he2
        rw [alls, cond_true]
        refine Tr.step (fun m => by rw [m_spec_ParseRules_l5, geN hk', cond_false]) (Tr.step (fun m => by rw [m_spec_ParseRules_j4]) ?_)
        rw [he2]
        have hall : alls ruleShape (f.kids.drop 2) = true := by rw [← ha]; rfl
        refine Tr.bind (l5Rules_tr _ k1.kids (fun r hr => ?_) d1.fit.parts.2.2.2 (by omega)) ?_
        · obtain ⟨x, hx, rfl⟩ := List.mem_map.1 hr
          have := ruleOf_dr (kid_dr hf (List.mem_of_mem_drop hx)) (alls_iff.1 hall x hx)
          exact ⟨this.p.mono (by omega), this.t.mono (by omega)⟩
        · cases rulesOkB ((f.kids.drop 2).map ruleOf) k1.kids with
          | false => exact Tr.tt rfl Tr.val
          | true => exact Tr.ff rfl Tr.val
      | cons x xs ih =>
        intro k rs hd hr ha he
        have hk' : k < f.kids.length := by have := congrArg List.length hd; rw [List.length_drop] at this; simp at this; omega
        have hx : f.kids[k]? = some x := by
          have := congrArg (fun l => l[0]?) hd
          simpa using this
        have hd2 : f.kids.drop (k + 1) = xs := by rw [← List.drop_drop, hd]; rfl
        have hxm := List.mem_of_getElem? hx
        rw [alls] at ha he
        have j6 : ∀ b : Bool, ruleShape x = !b → Tr (fun m => m_spec_ParseRules_j6 m f k1.kids rs (k : Int) b) (bif alls ruleShape (f.kids.drop 2) then
      bif rulesOkB ((f.kids.drop 2).map ruleOf) k1.kids then (k1.kids, (f.kids.drop 2).map ruleOf, true) else ([], [], false)
    else ([], [], false)) := by
          intro b hb
          cases b with
          | true =>
            rw [hb, Bool.not_true, Bool.false_and] at ha
            rw [← ha]
            exact Tr.step (fun m => by rw [m_spec_ParseRules_j6, cond_true]; rfl) Tr.val
          | false =>
            rw [hb, Bool.not_false, Bool.true_and] at ha he
            have hs2 : ruleShape x = true := hb
            have hs := hs2
            unfold ruleShape at hs
            rw [Bool.and_eq_true, decide_eq_true_eq, decide_eq_true_eq] at hs
            obtain ⟨e0, _⟩ := getD_mem (l := x.kids) (k := 0) (d := form0) (by omega)
            obtain ⟨e1, _⟩ := getD_mem (l := x.kids) (k := 1) (d := form0) (by omega)
            have q0 : idx x.kids 0 = some (x.kids.getD 0 form0) := idx_nat e0
            have q1 : idx x.kids 1 = some (x.kids.getD 1 form0) := idx_nat e1
            have dr := ruleOf_dr (kid_dr hf hxm) hs2
            refine Tr.step (fun m => by rw [m_spec_ParseRules_j6, cond_false, idx_nat hx, Option.bind_some, q0, Option.bind_some]) ?_
            refine Tr.bind (l1Copy_tr _ _ (Nat.le_refl _) (by have h := dr.p.w; have h2 : (x.kids.getD 0 form0).w ≤ 2 ^ 30 := h; omega)) (Tr.eq (fun m => by rw [Option.bind_some, q1, Option.bind_some]) ?_)
            refine Tr.bind (l1Copy_tr _ _ (Nat.le_refl _) (by have h := dr.t.w; have h2 : (x.kids.getD 1 form0).w ≤ 2 ^ 30 := h; omega)) ?_
            refine Tr.chk (decide_eq_true (by simp; omega)) (Tr.eq (fun m => by rw [succN]; rfl) (ih (k + 1) (rs ++ [ruleOf x]) hd2 (by simp; omega) ha (fun h => ?_)))
            have := he h
            rw [List.map_cons] at this
            rw [List.append_assoc]
            exact this
        refine Tr.step (fun m => by rw [m_spec_ParseRules_l5, ltN hk', cond_true, idx_nat hx, Option.bind_some, Option.bind_some]) ?_
        unfold ruleShape at j6
        by_cases h3 : x.kind = 3
        · refine Tr.ff (by simpa using h3) (j6 _ ?_)
          rw [decide_eq_true h3, Bool.true_and]
          by_cases h2 : x.kids.length = 2
          · rw [decide_eq_true h2, decide_eq_false (by omega)]; rfl
          · rw [decide_eq_false h2, decide_eq_true (by omega)]; rfl
        · refine Tr.tt (by simpa using h3) (j6 true ?_)
          rw [decide_eq_false h3]; rfl
    exact key (f.kids.drop 2) 2 [] rfl (by simp) rfl (fun _ => by simp)
  have lits := drop_ind k1.kids (fun k zs => ∀ g : List Form, g ++ zs = k1.kids → g.length = k → Tr (fun m => m_spec_ParseRules_l3 m f g (k : Int)) (bif alls ruleShape (f.kids.drop 2) then
      bif rulesOkB ((f.kids.drop 2).map ruleOf) k1.kids then (k1.kids, (f.kids.drop 2).map ruleOf, true) else ([], [], false)
    else ([], [], false))) ?_ ?_ 0 (Nat.zero_le _) [] (by simp) rfl
  · exact lits
  · intro g hg _
    rw [List.append_nil] at hg
    subst hg
    exact Tr.step (fun m => by rw [m_spec_ParseRules_l3, i1, Option.bind_some, ltN_self, cond_false]) tail
  · intro k x zs hk' hx hd ih g hg hgl
    have hxm := List.mem_of_getElem? hx
    have := Form.ws_mem hxm
    refine Tr.step (fun m => by rw [m_spec_ParseRules_l3, i1, Option.bind_some, ltN hk', cond_true, Option.bind_some, idx_nat hx, Option.bind_some, succN]) ?_
    refine Tr.bind (l1Copy_tr _ x (Nat.le_refl _) (by omega)) (Tr.chk (decide_eq_true (by simp; omega)) (ih (g ++ [x]) (by rw [List.append_assoc]; exact hg) (by simp [hgl])))
structure Dr5 (lits : List Form) (rules : List Rule) (f : Form) : Prop where
  lw : Form.ws lits ≤ 400
  lf : Form.fits lits
  ne : 0 < rules.length
  len : rules.length ≤ 400
  r : ∀ r ∈ rules, DrR 200 r
  f : Dr 400 f
theorem parseR_dr {f : Form} (hf : Dr 102 f) (h3 : 3 ≤ f.kids.length) (hok : (parseR f).2.2 = true) : Form.ws (parseR f).1 ≤ 400 ∧ Form.fits (parseR f).1 ∧ 0 < (parseR f).2.1.length ∧ (parseR f).2.1.length ≤ 400 ∧ ∀ r ∈ (parseR f).2.1, DrR 200 r := by
  have hw := f.w_kids
  have hl := Form.ws_len f.kids
  have hfw := hf.w
  unfold parseR at hok ⊢
  cases h1 : isRules f with
  | false => rw [h1] at hok; cases hok
  | true =>
  rw [h1, cond_true] at hok; rw [cond_true]
  cases h2 : alls ruleShape (f.kids.drop 2) with
  | false => rw [h2] at hok; cases hok
  | true =>
  rw [h2, cond_true] at hok; rw [cond_true]
  cases h4 : rulesOkB ((f.kids.drop 2).map ruleOf) (f.kids.getD 1 form0).kids with
  | false => rw [h4] at hok; cases hok
  | true =>
  rw [cond_true]
  have d1 := kid_dr hf (getD_mem (l := f.kids) (k := 1) (d := form0) (by omega)).2
  have d1w := d1.w
  have k1w := (f.kids.getD 1 form0).w_kids
  refine ⟨by dsimp only; omega, d1.fit.parts.2.2.2, by simp; omega, by simp; omega, fun r hr => ?_⟩
  obtain ⟨x, hx, rfl⟩ := List.mem_map.1 hr
  have := ruleOf_dr (kid_dr hf (List.mem_of_mem_drop hx)) (alls_iff.1 h2 x hx)
  exact ⟨this.p.mono (by omega), this.t.mono (by omega)⟩
theorem t5_kids : ∀ p ∈ [(t5F0, t5F1), (t5F2, t5F3), (t5F4, t5F5), (t5F6, t5F7), (t5F8, t5F9), (t5F10, t5F11), (t5F12, t5F13), (t5F14, t5F15)], 3 ≤ p.1.kids.length := by
  intro p hp
  simp only [List.mem_cons, List.not_mem_nil, or_false] at hp
  rcases hp with rfl | rfl | rfl | rfl | rfl | rfl | rfl | rfl <;> exact of_decide_eq_true (by kernel_rfl)
theorem t5_first : ∃ b, Abs.idx t5T 0 = some [(⟨#[40, 114, 117, 108, 101, 115, 32, 40, 41, 32, 40, 40, 95, 32, 97, 32, 98, 41, 32, 40, 108, 101, 116, 32, 40, 40, 116, 109, 112, 32, 97, 41, 41, 32, 40, 108, 105, 115, 116, 32, 98, 32, 116, 109, 112, 41, 41, 41, 41]⟩ : ByteArray), b] := ⟨_, rfl⟩
theorem t5_ok : (parseR t5F0).2.2 = true := by
  have h1 := specParseRules_tr t5F0 (t5P0.dr.mono (by omega))
  have h2 : TQ (fun m => m_spec_ParseRules m t5F0) (fun r => r.2.2 = true) := by
    refine ⟨_, Tr.add 200 (v := ([], [ruleOf (t5F0.kids.getD 2 form0)], true)) (fun m => by kernel_rfl), rfl⟩
  exact TQ.of_tr (Q := fun r => r.2.2 = true) h1 h2
theorem l5Case_tq (code : List Int) (hc : ∀ x ∈ code, 0 ≤ x ∧ x < 256) : TQ (fun m => m_spec_l5Case m code) (fun r => Dr5 r.1 r.2.1 r.2.2) := by
  refine TQ.eq (fun m => by unfold m_spec_l5Case; rfl) ?_
  refine TQ.bind (open_tq code hc) (fun o ho => TQ.ev t5T_tr (TQ.bind (pick_tq o _ _ ho (by omega)) (fun v hv => ?_)))
  obtain ⟨h1, _, h2, _⟩ := hv
  obtain ⟨h2, h3⟩ := h2 (by decide)
  obtain ⟨p, hp, a, b, hi, pa, pb⟩ := pairs_tq t5T_all h2 h3
  have hp3 := t5_kids p hp
  refine TQ.at hi (TQ.at (idx2_0 _ _) (TQ.ev pa.tr (TQ.bind (pick_tq _ 10 _ h1 (by omega)) (fun w hw => ?_))))
  -- the second part
  have j2 : ∀ (o : l15Rd) (K : Int) (lits : List Form) (rules : List Rule), OkRd o K → K ≤ 100000 → (Form.ws lits ≤ 400 ∧ Form.fits lits ∧ 0 < rules.length ∧ rules.length ≤ 400 ∧ ∀ r ∈ rules, DrR 200 r) → TQ (fun m => m_spec_l5Case_j2 m t5T v o.b o.p lits rules) (fun r => Dr5 r.1 r.2.1 r.2.2) := by
    intro o K lits rules ho hK hd
    obtain ⟨d1, d2, d3, d4, d5⟩ := hd
    refine TQ.step (fun m => by rw [m_spec_l5Case_j2]) (TQ.at hi (TQ.at (idx2_1 a b) (TQ.ev pb.tr (TQ.bind (pick_tq _ 8 _ ho.mk' (by omega)) (fun u hu => ?_)))))
    have u1 := hu.1
    have db := pb.dr
    refine TQ.cond (fun _ => ?_) (fun _ => TQ.cond (fun _ => ?_) (fun _ => TQ.cond (fun _ => ?_) (fun _ => ?_)))
    · refine TQ.bind (pick_tq _ _ _ u1 (by omega)) (fun z hz => ?_)
      obtain ⟨_, _, z2, _⟩ := hz
      obtain ⟨z2, z3⟩ := z2 (by decide)
      obtain ⟨q, _, a', b', hi', qa, qb⟩ := pairs_tq t5T_all z2 z3
      exact TQ.at hi' (TQ.at (idx2_1 _ _) (TQ.ev qb.tr (TQ.val ⟨d1, d2, d3, d4, d5, qb.dr.mono (by omega)⟩)))
    · exact mutate2_tq _ _ _ u1 (db.mono (by omega)) (by omega) (g := fun f _ _ => some (lits, rules, f)) (fun f o' _ hf => TQ.val ⟨d1, d2, d3, d4, d5, hf.mono (by have := db.w; omega)⟩)
    · refine TQ.bind (l1Dress_tq _ p.2 _ _ (Nat.le_refl _) u1 (by have := db.w; omega) db.fit (by have := db.w; omega)) (fun z hz => TQ.val ⟨d1, d2, d3, d4, d5, ⟨?_, hz.2.2⟩⟩)
      have := db.w; have := hz.2.1; dsimp only; omega
    · exact TQ.val ⟨d1, d2, d3, d4, d5, db.mono (by omega)⟩
  have j1 : ∀ (o : l15Rd) (K : Int) (f : Form), OkRd o K → K ≤ 100000 → Dr 102 f → 3 ≤ f.kids.length → TQ (fun m => m_spec_l5Case_j1 m t5T v o.b o.p f.kind f.name f.n f.scopes f.kids) (fun r => Dr5 r.1 r.2.1 r.2.2) := by
    intro o K f ho hK hf h3
    have e : Form.mk f.kind f.name f.n f.scopes f.kids = f := by obtain ⟨a, b, c, d, e⟩ := f; rfl
    refine TQ.step (fun m => by rw [m_spec_l5Case_j1, e]) (TQ.ev (specParseRules_tr f (hf.mono (by omega))) ?_)
    cases hok : (parseR f).2.2 with
    | true => exact TQ.cond (fun h => by cases h) (fun _ => j2 o K _ _ ho hK (parseR_dr hf h3 hok))
    | false =>
      obtain ⟨b0, hb0⟩ := t5_first
      refine TQ.cond (fun _ => TQ.at hb0 (TQ.at (idx2_0 _ _) (TQ.ev t5P0.tr (TQ.ev (specParseRules_tr t5F0 (t5P0.dr.mono (by omega))) (j2 o K _ _ ho hK (parseR_dr (t5P0.dr.mono (by omega)) (t5_kids (t5F0, t5F1) (by simp)) t5_ok)))))) (fun h => by cases h)
  have da := pa.dr
  refine TQ.cond (fun _ => ?_) (fun _ => ?_)
  · exact mutate2_len _ _ _ hw.1 (da.mono (by omega)) (by omega) (g := fun f o m => m_spec_l5Case_j1 m t5T v o.b o.p f.kind f.name f.n f.scopes f.kids) (fun f o' ho' hf hk => j1 o' _ f ho' (by omega) (hf.mono (by have := da.w; omega)) (by omega))
  · exact j1 w.2 _ p.1 hw.1 (by omega) (da.mono (by omega)) hp3
theorem DrawRuleValid_tq (code : List Int) (hc : ∀ x ∈ code, 0 ≤ x ∧ x < 256) : TQ (fun m => m_spec_DrawRuleValid m code) (fun r => DrR 400 r.1 ∧ Form.ws r.2 ≤ 400 ∧ Form.fits r.2) := by
  refine TQ.eq (fun m => by unfold m_spec_DrawRuleValid; rfl) ?_
  refine TQ.bind (l5Case_tq code hc) (fun c hcc => TQ.bind (open_tq code hc) (fun o ho => TQ.bind (pick_tq o _ _ ho (by omega)) (fun v hv => ?_)))
  obtain ⟨h1, _, h2, _⟩ := hv
  obtain ⟨h2, h3⟩ := h2 (by have := hcc.ne; omega)
  refine TQ.idx h2 h3 (fun x hx => TQ.bind (pick_tq _ 8 _ h1 (by omega)) (fun w hw => ?_))
  have hxr := hcc.r x hx
  have w1 := hw.1
  refine TQ.cond (fun _ => ?_) (fun _ => TQ.cond (fun _ => ?_) (fun _ => TQ.val ⟨⟨hxr.p.mono (by omega), hxr.t.mono (by omega)⟩, hcc.lw, hcc.lf⟩))
  · exact mutate2_tq _ _ _ w1 (hxr.t.mono (by omega)) (by omega) (g := fun f _ _ => some (Rule.mk x.pattern f, c.1)) (fun f o' _ hf => TQ.val ⟨⟨hxr.p.mono (by omega), hf.mono (by have := hxr.t.w; omega)⟩, hcc.lw, hcc.lf⟩)
  · exact mutate2_tq _ _ _ w1 (hxr.p.mono (by omega)) (by omega) (g := fun f _ _ => some (Rule.mk f x.template, c.1)) (fun f o' _ hf => TQ.val ⟨⟨hf.mono (by have := hxr.p.w; omega), hxr.t.mono (by omega)⟩, hcc.lw, hcc.lf⟩)
theorem depF_at : ∀ {l : List (Form × Int)}, distF [] (l.map (·.1)) = true → ∀ {i : Nat} {p : Form × Int}, l[i]? = some p → depF l p.1 = p.2
  | [], _, i, p, h => by simp at h
  | q :: l, hd, 0, p, h => by
    simp at h; subst h
    rw [depF, same_self, cond_true]
  | q :: l, hd, i + 1, p, h => by
    have hne := (distF_ne hd).2 0 (i + 1) q.1 p.1 (by omega) rfl (by rw [List.map_cons, List.getElem?_cons_succ, List.getElem?_map]; rw [List.getElem?_cons_succ] at h; rw [h]; rfl)
    rw [depF, hne, cond_false]
    rw [List.map_cons, distF, Bool.and_eq_true] at hd
    refine depF_at ?_ (by simpa using h)
    have sub : ∀ (l ps qs : List Form), (∀ x ∈ qs, x ∈ ps) → distF ps l = true → distF qs l = true := by
      intro l
      induction l with
      | nil => intro _ _ _ _; rw [distF]
      | cons z l ih =>
        intro ps qs hs h
        rw [distF, Bool.and_eq_true] at h ⊢
        refine ⟨?_, ih _ _ (fun x hx => ?_) h.2⟩
        · unfold inF at h ⊢
          rw [Bool.not_not, alls_iff] at h ⊢
          exact fun x hx => h.1 x (hs x hx)
        · rcases List.mem_append.1 hx with hx | hx
          · exact List.mem_append_left _ (hs x hx)
          · exact List.mem_append_right _ hx
    exact sub _ _ _ (fun x hx => by cases hx) hd.2
theorem isOk_name {f : Form} {d : Nat} (h : f.isOk d = true) (h1 : f.kind = 1) : f.valid = true ∧ f.kids = [] := by
  have hk := (isOk_kids h).1 (by omega)
  refine ⟨?_, hk⟩
  unfold Form.valid
  rw [Form.isOk_eq] at h ⊢
  cases hd : decide (d = 0) with
  | true => rw [hd] at h; cases h
  | false =>
    rw [hd, cond_false, decide_eq_true h1, cond_true] at h
    rw [decide_eq_false (by omega), cond_false, decide_eq_true h1, cond_true, h, Form.cnt_eq, hk, Form.cnts]; rfl
theorem vs_isOk (lits : List Form) : ∀ (n : Nat) (p : Form), p.w ≤ n → (∃ d, p.isOk d = true) → ∀ x ∈ p.vs lits, ∃ d, x.isOk d = true := by
  intro n
  induction n with
  | zero => intro p h; have := p.w_kids; omega
  | succ n ih =>
    intro p hp hd x hx
    have hw := p.w_kids
    rw [Form.vs_eq] at hx
    rcases List.mem_append.1 hx with hx | hx
    · cases hv : isVarB lits p with
      | true => rw [hv, cond_true, List.mem_singleton] at hx; subst hx; exact hd
      | false => rw [hv] at hx; cases hx
    · obtain ⟨d, hd⟩ := hd
      have k2 := (isOk_kids hd).2
      have key : ∀ l : List Form, Form.ws l ≤ n → (∀ y ∈ l, ∃ d, y.isOk d = true) → x ∈ Form.kVs lits l → ∃ d, x.isOk d = true := by
        intro l
        induction l with
        | nil => intro _ _ hx; rw [Form.kVs] at hx; cases hx
        | cons y ys ihl =>
          intro hl hy hx
          rw [Form.ws] at hl
          rw [Form.kVs] at hx
          rcases List.mem_append.1 hx with hx | hx
          · exact ih y (by omega) (hy y (by simp)) x hx
          · exact ihl (by omega) (fun z hz => hy z (by simp [hz])) hx
      exact key p.kids (by omega) (fun y hy => ⟨_, k2 y hy⟩) hx
theorem FnRuleVars_law (code : List Int) (hc : ∀ x ∈ code, 0 ≤ x ∧ x < 256) : TQ (fun m => m_laws_FnRuleVars m code) (fun r => r = true) := by
  refine codeB (fun _ => ?_) (fun m => by unfold m_laws_FnRuleVars; rfl)
  refine TQ.bind (DrawRuleValid_tq code hc) (fun v hv => TQ.same ?_)
  obtain ⟨hr, hlw, hlf⟩ := hv
  have hpw := hr.p.w
  have htw := hr.t.w
  have t1 := implRuleValid_tr v.1 v.2 hr.p.fit (by omega) hr.t.fit (by omega) hlf
  have t2 := specRuleValid_tr v.1 v.2 hr.p.fit (by omega) hr.t.fit (by omega) hlf (by omega)
  refine Tr.bind t1 (Tr.bind t2 (Tr.ff (by simp) (Tr.step (fun m => by rw [m_laws_FnRuleVars_j1]) ?_)))
  cases ho : ruleOk v.1 v.2 with
  | false => rw [ho] at t2; exact Tr.tt rfl (Tr.bind t2 (Tr.of (fun _ => by simp)))
  | true =>
    have h0 := ho
    unfold ruleOk at h0
    simp only [Bool.and_eq_true, decide_eq_true_eq] at h0
    obtain ⟨hp, hk3, hk0, _⟩ := h0
    refine Tr.ff rfl (Tr.bind (implPatternVars_tr v.1.pattern v.2 hr.p.fit (by omega) hlf) (Tr.bind (implVarDepths_tr v.1.pattern v.2 hr.p.fit (by omega) hlf) ?_))
    have hvars : pvars v.1.pattern v.2 = (v.1.pattern.vd v.2 0).map (·.1) := by unfold pvars; rw [hp, cond_true, Form.vd_fst]
    have hdeps : pdeps v.1.pattern v.2 = (v.1.pattern.vd v.2 0).map (·.2) := by unfold pdeps; rw [hp, cond_true]
    rw [hvars, hdeps]
    have hS := patOk_S hp
    have hdist : distF [] ((v.1.pattern.vd v.2 0).map (·.1)) = true := by
      unfold patOk at hp
      simp only [Bool.and_eq_true] at hp
      rw [Form.vd_fst]
      exact hp.2.2.2.1.1
    have hnn := Form.vd_nn v.2 v.1.pattern 0
    have hmem : ∀ q ∈ v.1.pattern.vd v.2 0, q.1 ∈ v.1.pattern.vs v.2 := fun q hq => by rw [← Form.vd_fst v.2 v.1.pattern 0]; exact List.mem_map_of_mem hq
    -- a rule with another template
    have rule : ∀ (x : Form), x.fit → x.w ≤ 2 ^ 36 → x.valid = true → isDots x = false → x.kids = [] → Tr (fun m => m_impl_RuleValid m (Rule.mk v.1.pattern x) v.2) (!decide (0 < dep (v.1.pattern.vd v.2 0) x)) := by
      intro x hxf hxw hxv hxd hxk
      have := implRuleValid_tr (Rule.mk v.1.pattern x) v.2 hr.p.fit (by show v.1.pattern.w ≤ _; omega) hxf hxw hlf
      have e : ruleOk (Rule.mk v.1.pattern x) v.2 = !decide (0 < dep (v.1.pattern.vd v.2 0) x) := by
        unfold ruleOk tmplOk
        show (patOk v.1.pattern v.2 && (decide (v.1.pattern.kind = 3) && (decide (0 < (v.1.pattern.kids.length : Int)) && (x.valid && (!isDots x && (x.dotsOk false && x.rws (v.1.pattern.vd v.2 0) 0)))))) = _
        rw [hp, decide_eq_true hk3, decide_eq_true hk0, hxv, hxd, Form.dotsOk_eq, hxk, Form.kD, Form.rws_eq, hxk, Form.kR]
        simp
      rwa [e] at this
    have key := drop_ind (v.1.pattern.vd v.2 0) (fun k zs => Tr (fun m => m_laws_FnRuleVars_l2 m v ((v.1.pattern.vd v.2 0).map (·.1)) ((v.1.pattern.vd v.2 0).map (·.2)) (k : Int)) true) ?_ ?_ 0 (Nat.zero_le _)
    · exact key
    · refine Tr.step (fun m => by rw [m_laws_FnRuleVars_l2, List.length_map, ltN_self, cond_false]) ?_
      have := rule (Form.mk 2 (⟨#[]⟩ : ByteArray) 0 ([] : List Int) ([] : List Form)) (by rw [Form.fit, Form.fits]; decide) (by decide) (by decide) (by decide) rfl
      rw [show dep (v.1.pattern.vd v.2 0) (Form.mk 2 (⟨#[]⟩ : ByteArray) 0 ([] : List Int) ([] : List Form)) = -1 from rfl] at this
      exact Tr.bind this Tr.val
    · intro k q zs hk hx hd ih
      have hx1 : ((v.1.pattern.vd v.2 0).map (·.1))[k]? = some q.1 := by rw [List.getElem?_map, hx]; rfl
      have hx2 : ((v.1.pattern.vd v.2 0).map (·.2))[k]? = some q.2 := by rw [List.getElem?_map, hx]; rfl
      have hqm := List.mem_of_getElem? hx
      have hq := hmem q hqm
      have hvar := (Form.vs_part v.2 v.1.pattern q.1 hq).1
      have hq1 : q.1.kind = 1 ∧ isDots q.1 = false := by
        unfold isVarB at hvar
        simp only [Bool.and_eq_true, decide_eq_true_eq, Bool.not_eq_true', decide_eq_false_iff_not] at hvar
        refine ⟨hvar.1, ?_⟩
        unfold isDots
        rw [decide_eq_false hvar.2.1, Bool.and_false]
      obtain ⟨d, hd⟩ := vs_isOk v.2 _ v.1.pattern (Nat.le_refl _) hS.ok q.1 hq
      obtain ⟨n1, n2⟩ := isOk_name hd hq1.1
      have hqw := Form.vs_w v.2 v.1.pattern q.1 hq
      have hR := rule q.1 (Form.vs_fit v.2 _ v.1.pattern (Nat.le_refl _) hr.p.fit q.1 hq) (by omega) n1 hq1.2 n2
      have hdep : dep (v.1.pattern.vd v.2 0) q.1 = q.2 := by
        unfold dep
        rw [decide_eq_false (by simp [hq1.1]), cond_false]
        exact depF_at hdist hx
      rw [hdep] at hR
      refine Tr.step (fun m => by rw [m_laws_FnRuleVars_l2, List.length_map, ltN hk, cond_true, idx_nat hx1, Option.bind_some]) (Tr.bind hR (Tr.eq (fun m => by rw [idx_nat hx2, Option.bind_some, succN]) (Tr.ff ?_ ih)))
      have h0 := hnn q hqm
      by_cases hz : q.2 = 0
      · rw [hz]; decide
      · rw [decide_eq_true (show 0 < q.2 by omega), decide_eq_false hz]; decide
end Go.Abs
end
