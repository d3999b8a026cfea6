/- A part of the proof: what the functions that the law calls answer, as pure values. -/
import Derived.Test.YtgicgbokgmmgdaaHf8
set_option linter.unusedSimpArgs false
set_option linter.unusedVariables false
section
set_option linter.unusedVariables false
set_option linter.unusedSimpArgs false
namespace Go.Abs
theorem l1Copy_tr : ∀ (n : Nat) (f : Form), f.w ≤ n → f.w ≤ 2 ^ 36 → Tr (fun m => m_spec_l1Copy m f) f := by
  intro n
  induction n with
  | zero => intro f h _; have := f.w_kids; omega
  | succ n ih =>
    intro f h hb
    have hw := f.w_kids
    have hl := Form.ws_len f.kids
    refine Tr.step (fun m => by rw [m_spec_l1Copy]) ?_
    refine Tr.chk (by simp; omega) ?_
    have key := drop_ind f.kids (fun k ys => ∀ acc : List Form, acc.length = k → Tr (fun m => m_spec_l1Copy_l1 m f (k : Int) acc) (Form.mk f.kind f.name f.n f.scopes (acc ++ ys))) ?_ ?_ 0 (Nat.zero_le _) [] rfl
    · rw [List.drop_zero, List.nil_append] at key
      obtain ⟨a, b, c, d, e⟩ := f
      exact key
    · intro acc _
      refine Tr.step (fun m => by rw [m_spec_l1Copy_l1, ltN_self]) ?_
      rw [List.append_nil]; exact Tr.val
    · intro k x xs hk hx hd ihk acc hacc
      have hmem : x ∈ f.kids := List.mem_of_getElem? hx
      have hxw := Form.ws_mem hmem
      refine Tr.step (fun m => by rw [m_spec_l1Copy_l1, ltN hk, idx_nat hx, succN]) ?_
      refine Tr.bind (ih x (by omega) (by omega)) ?_
      refine Tr.chk (by simp; omega) ?_
      have := ihk (acc ++ [x]) (by simp; exact hacc)
      rwa [List.append_assoc] at this
theorem Tr.add {α : Type} {F : Nat → Option α} {v : α} (n : Nat) (h : ∀ k, F (k + n) = some v) : Tr F v := ⟨n, fun m hm => by
  have := h (m - n)
  rwa [Nat.sub_add_cancel hm] at this⟩
theorem Form.ws_set : ∀ (l : List Form) (i : Nat) (x : Form) (B : Nat), (∀ y, l[i]? = some y → x.w ≤ y.w + B) → Form.ws (l.set i x) ≤ Form.ws l + B
  | [], i, x, B, _ => by simp [Form.ws]
  | y :: l, 0, x, B, h => by
    have := h y rfl
    rw [List.set_cons_zero, Form.ws, Form.ws]; omega
  | y :: l, i + 1, x, B, h => by
    have := Form.ws_set l i x B (fun z hz => h z (by simpa using hz))
    rw [List.set_cons_succ, Form.ws, Form.ws]; omega
theorem Form.fits_set : ∀ (l : List Form) (i : Nat) (x : Form), Form.fits l → x.fit → Form.fits (l.set i x)
  | [], i, x, h, _ => by simpa using h
  | y :: l, 0, x, h, hx => by
    rw [Form.fits] at h; rw [List.set_cons_zero, Form.fits]; exact ⟨hx, h.2⟩
  | y :: l, i + 1, x, h, hx => by
    rw [Form.fits] at h; rw [List.set_cons_succ, Form.fits]; exact ⟨h.1, Form.fits_set l i x h.2 hx⟩
def mutF (v1 : Form) (o1 : l15Rd) (fuel : Nat) : Option (Form × l15Rd) :=
 (m_spec_l15Rd_pick fuel o1 14).bind fun v9 =>
 (bif (decide (v9.1 = 0)) then
 (m_spec_l15Rd_num fuel v9.2 [0, 4, 1, 3]).bind fun v11 =>
 some ((Form.mk v11.1 v1.name v1.n v1.scopes v1.kids), v11.2)
 else
 (bif (decide (v9.1 = 1)) then
 (m_spec_l15Rd_of fuel v9.2 [(⟨#[]⟩ : ByteArray), (⟨#[65]⟩ : ByteArray), (⟨#[116, 111, 111, 108, 111, 110, 103, 97, 110, 97, 109, 101, 49]⟩ : ByteArray), (⟨#[122]⟩ : ByteArray), (⟨#[120, 32, 121]⟩ : ByteArray)]).bind fun v13 =>
 some ((Form.mk v1.kind v13.1 v1.n v1.scopes v1.kids), v13.2)
 else
 (bif (decide (v9.1 = 2)) then
 (m_spec_l15Rd_num fuel v9.2 [1000, (-1), 5]).bind fun v15 =>
 some ((Form.mk v1.kind v1.name v15.1 v1.scopes v1.kids), v15.2)
 else
 (bif (decide (v9.1 = 3)) then
 (m_spec_l15Rd_num fuel v9.2 [0, 100, 1, 50]).bind fun v17 =>
 chk (decide ((v1.scopes.length + [v17.1].length) * 8 ≤ 140737488355328)) <|
 some ((Form.mk v1.kind v1.name v1.n (v1.scopes ++ [v17.1]) v1.kids), v17.2)
 else
 some (v1, v9.2)))))
theorem mutF_tq (v1 : Form) (o : l15Rd) (K : Int) (h : OkRd o K) (hK : K + 2 ≤ 1000000000) (hw : v1.w ≤ 2 ^ 36) (hf : v1.fit) : TQ (mutF v1 o) (fun r => OkRd r.2 (K + 2) ∧ r.1.w ≤ v1.w + 1 ∧ r.1.fit) := by
  have hk := v1.w_kids
  obtain ⟨f1, f2, f3, f4⟩ := hf.parts
  unfold mutF
  refine TQ.bind (pick_tq o 14 _ h (by omega)) (fun v hv => ?_)
  refine TQ.cond (fun _ => ?_) (fun _ => TQ.cond (fun _ => ?_) (fun _ => TQ.cond (fun _ => ?_) (fun _ => TQ.cond (fun _ => ?_) (fun _ => ?_))))
  · exact TQ.bind (num_tq _ _ _ hv.1 (by omega) (by decide)) (fun w hw => TQ.val ⟨hw.1.mono (by omega), by simp only [Form.w]; omega, by rw [Form.fit]; exact ⟨f1, f2, f3, f4⟩⟩)
  · exact TQ.bind (of_tq _ _ _ hv.1 (by omega) (by decide)) (fun w hw => TQ.val ⟨hw.1.mono (by omega), by simp only [Form.w]; omega, by
      rw [Form.fit]
      refine ⟨?_, f2, f3, f4⟩
      have h2 := hw.2
      simp only [List.mem_cons, List.not_mem_nil, or_false] at h2
      rcases h2 with h2 | h2 | h2 | h2 | h2 <;> rw [h2] <;> decide⟩)
  · exact TQ.bind (num_tq _ _ _ hv.1 (by omega) (by decide)) (fun w hw => TQ.val ⟨hw.1.mono (by omega), by simp only [Form.w]; omega, by rw [Form.fit]; exact ⟨f1, f2, f3, f4⟩⟩)
  · exact TQ.bind (num_tq _ _ _ hv.1 (by omega) (by decide)) (fun w hw => TQ.chk (by simp; omega) (TQ.val ⟨hw.1.mono (by omega), by simp only [Form.w, List.length_append, List.length_cons, List.length_nil]; omega, by rw [Form.fit]; exact ⟨f1, by simp only [List.length_append, List.length_cons, List.length_nil]; omega, f3, f4⟩⟩))
  · exact TQ.val ⟨hv.1.mono (by omega), Nat.le_succ _, hf⟩
theorem l1Mutate_tq : ∀ (n : Nat) (c : Form) (o : l15Rd) (K : Int), c.w ≤ n → OkRd o K → c.w ≤ 2 ^ 30 → c.fit → K + 3 * c.w ≤ 1000000000 → TQ (fun m => m_spec_l1Mutate m o c) (fun r => OkRd r.2 (K + 3 * c.w) ∧ r.1.w ≤ c.w + 1 ∧ r.1.fit) := by
  intro n
  induction n with
  | zero => intro c o K h; have := c.w_kids; omega
  | succ n ih =>
    intro c o K h ho hb hf hK
    have hw := c.w_kids
    obtain ⟨f1, f2, f3, f4⟩ := hf.parts
    refine TQ.step (fun m => by rw [m_spec_l1Mutate]) ?_
    refine TQ.ev (l1Copy_tr _ c (Nat.le_refl _) (by omega)) ?_
    refine TQ.cond (fun hc => ?_) (fun _ => ?_)
    · have hpos : 0 < c.kids.length := by simpa using hc
      have hl := Form.ws_len c.kids
      refine TQ.bind (pick_tq o 2 _ ho (by omega)) (fun v hv => ?_)
      refine TQ.cond (fun _ => ?_) (fun _ => ?_)
      · refine TQ.bind (pick_tq _ _ _ hv.1 (by omega)) (fun w hw2 => ?_)
        obtain ⟨h1, _, h2, _⟩ := hw2
        obtain ⟨h2, h3⟩ := h2 (by omega)
        obtain ⟨x, hx, hm⟩ := idx_int h2 h3
        have hxw := Form.ws_mem hm
        have hx2 := (idx_some hx).2.2
        obtain ⟨r, hr, q1, q2, q3⟩ := ih x w.2 _ (by omega) h1 (by omega) (Form.fits_mem f4 hm) (by omega)
        refine ⟨_, Tr.idx hx (Tr.bind hr (Tr.idx hx Tr.val)), q1.mono (by omega), ?_, ?_⟩
        · have := Form.ws_set c.kids w.1.toNat r.1 1 (fun y hy => by rw [hx2] at hy; cases hy; exact q2)
          simp only [Form.w]; omega
        · rw [Form.fit]; exact ⟨f1, f2, by rw [List.length_set]; exact f3, Form.fits_set _ _ _ f4 q3⟩
      · exact (mutF_tq c _ _ hv.1 (by omega) (by omega) hf).mono (fun r hr => ⟨hr.1.mono (by omega), hr.2⟩)
    · exact (mutF_tq c _ _ ho (by omega) (by omega) hf).mono (fun r hr => ⟨hr.1.mono (by omega), hr.2⟩)
end Go.Abs
end
section
set_option linter.unusedVariables false
set_option linter.unusedSimpArgs false
namespace Go.Abs
theorem Form.fits_app : ∀ {a b : List Form}, Form.fits a → Form.fits b → Form.fits (a ++ b)
  | [], b, _, hb => hb
  | x :: a, b, ha, hb => by rw [Form.fits] at ha; rw [List.cons_append, Form.fits]; exact ⟨ha.1, Form.fits_app ha.2 hb⟩
theorem set_mid {α : Type} (d : List α) (x y : α) (zs : List α) : (d ++ x :: zs).set d.length y = (d ++ [y]) ++ zs := by
  rw [List.set_append_right _ _ (Nat.le_refl _), Nat.sub_self, List.set_cons_zero, List.append_assoc]; rfl
theorem dressLoop {L : Nat → Int → List Int → Int → List Form → Option (Form × l15Rd)} {fin : List Form → Form}
    (h0 : ∀ m k b p acc, L (m + 1) k b p acc = bif decide (k < (acc.length : Int)) then (idx acc k).bind fun x => (m_spec_l1Dress m (l15Rd.mk b p) x).bind fun r => (idx acc k).bind fun _ => L m (k + 1) r.2.b r.2.p (acc.set k.toNat r.1) else some (fin acc, l15Rd.mk b p)) :
    ∀ (zs d : List Form) (o : l15Rd) (K : Int), (∀ x ∈ zs, ∀ (o : l15Rd) (K : Int), OkRd o K → K + 3 * x.w ≤ 1000000000 → TQ (fun m => m_spec_l1Dress m o x) (fun r => OkRd r.2 (K + x.w) ∧ r.1.w ≤ 4 * x.w ∧ r.1.fit)) → OkRd o K → K + 3 * Form.ws zs ≤ 1000000000 → Form.fits d →
      TQ (fun m => L m (d.length : Int) o.b o.p (d ++ zs)) (fun r => ∃ e, r.1 = fin e ∧ Form.ws e ≤ Form.ws d + 4 * Form.ws zs ∧ Form.fits e ∧ e.length = d.length + zs.length ∧ OkRd r.2 (K + Form.ws zs))
  | [], d, o, K, _, ho, _, hd => by
    refine TQ.step (fun m => by rw [h0, List.append_nil, ltN_self, cond_false]) (TQ.val ⟨d, rfl, by simp [Form.ws], hd, by simp, ?_⟩)
    simpa [Form.ws] using ho.mk'
  | x :: zs, d, o, K, hx, ho, hK, hd => by
    rw [Form.ws] at hK
    have hi : (d ++ x :: zs)[d.length]? = some x := by simp
    refine TQ.step (fun m => by rw [h0, ltN (by simp), cond_true, idx_nat hi, Option.bind_some, Int.toNat_natCast]) ?_
    refine TQ.bind (hx x (by simp) _ K ho.mk' (by omega)) (fun r hr => ?_)
    refine TQ.eq (fun m => by rw [Option.bind_some, set_mid, show (d.length : Int) + 1 = ((d ++ [r.1]).length : Int) by simp]) ?_
    refine TQ.mono (dressLoop h0 zs (d ++ [r.1]) r.2 (K + x.w) (fun y hy => hx y (by simp [hy])) hr.1 (by omega) (Form.fits_app hd (by rw [Form.fits, Form.fits]; exact ⟨hr.2.2, trivial⟩))) (fun q hq => ?_)
    obtain ⟨e, e1, e2, e3, e4, e5⟩ := hq
    refine ⟨e, e1, ?_, e3, by rw [e4]; simp; omega, e5.mono (by rw [Form.ws]; omega)⟩
    rw [Form.ws_append, Form.ws, Form.ws] at e2
    rw [Form.ws]; omega
theorem l1Dress_tq : ∀ (n : Nat) (c : Form) (o : l15Rd) (K : Int), c.w ≤ n → OkRd o K → c.w ≤ 2 ^ 30 → c.fit → K + 3 * c.w ≤ 1000000000 → TQ (fun m => m_spec_l1Dress m o c) (fun r => OkRd r.2 (K + c.w) ∧ r.1.w ≤ 4 * c.w ∧ r.1.fit) := by
  intro n
  induction n with
  | zero => intro c o K h; have := c.w_kids; omega
  | succ n ih =>
    intro c o K h ho hb hf hK
    have hw := c.w_kids
    have hlen := Form.ws_len c.kids
    obtain ⟨f1, f2, f3, f4⟩ := hf.parts
    have step : ∀ x ∈ c.kids, ∀ (o : l15Rd) (K : Int), OkRd o K → K + 3 * x.w ≤ 1000000000 → TQ (fun m => m_spec_l1Dress m o x) (fun r => OkRd r.2 (K + x.w) ∧ r.1.w ≤ 4 * x.w ∧ r.1.fit) := fun x hx o K ho hK => by
      have := Form.ws_mem hx
      exact ih x o K (by omega) ho (by omega) (Form.fits_mem f4 hx) hK
    refine TQ.step (fun m => by rw [m_spec_l1Dress]) (TQ.ev (l1Copy_tr _ c (Nat.le_refl _) (by omega)) ?_)
    refine TQ.cond (fun _ => ?_) (fun _ => ?_)
    · refine TQ.bind (pick_tq o _ _ ho (by omega)) (fun v hv => ?_)
      obtain ⟨h1, _, h2, _⟩ := hv
      obtain ⟨h2, h3⟩ := h2 (by decide)
      refine TQ.idx h2 h3 (fun sc hsc => ?_)
      have hsl : sc.length ≤ 3 := by
        simp only [List.mem_cons, List.not_mem_nil, or_false] at hsc
        rcases hsc with h | h | h | h | h | h | h <;> rw [h] <;> decide
      refine TQ.chk (decide_eq_true (by simp only [List.length_nil]; omega)) ?_
      have key := dressLoop (L := fun m k b p acc => m_spec_l1Dress_l1 m c sc k b p acc) (fin := fun e => Form.mk c.kind c.name c.n (([] : List Int) ++ sc) e) (fun m k b p acc => by rw [m_spec_l1Dress_l1]) c.kids [] v.2 (K + 1) step h1 (by omega) (by rw [Form.fits]; trivial)
      refine TQ.mono key (fun r hr => ?_)
      obtain ⟨e, e1, e2, e3, e4, e5⟩ := hr
      simp only [Form.ws, List.length_nil, Nat.zero_add] at e2 e4
      refine ⟨e5.mono (by omega), ?_, ?_⟩
      · rw [e1]; simp only [Form.w, List.nil_append]; omega
      · rw [e1, Form.fit]; exact ⟨f1, by rw [List.nil_append]; omega, by omega, e3⟩
    · have key := dressLoop (L := fun m k b p acc => m_spec_l1Dress_l2 m c k b p acc) (fin := fun e => Form.mk c.kind c.name c.n c.scopes e) (fun m k b p acc => by rw [m_spec_l1Dress_l2]) c.kids [] o K step ho (by omega) (by rw [Form.fits]; trivial)
      refine TQ.mono key (fun r hr => ?_)
      obtain ⟨e, e1, e2, e3, e4, e5⟩ := hr
      simp only [Form.ws, List.length_nil, Nat.zero_add] at e2 e4
      refine ⟨e5.mono (by omega), ?_, ?_⟩
      · rw [e1]; simp only [Form.w]; omega
      · rw [e1, Form.fit]; exact ⟨f1, f2, by omega, e3⟩
end Go.Abs
end
