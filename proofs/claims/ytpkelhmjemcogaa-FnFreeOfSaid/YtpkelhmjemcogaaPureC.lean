/- Drawn forms and core programs are not large; copies are equal. -/
import Derived.Test.YtpkelhmjemcogaaPureB
set_option linter.unusedVariables false
set_option linter.unusedSimpArgs false
namespace Go.Abs

theorem pow4 (d : Nat) : 1 ≤ 4 ^ d := Nat.pos_of_ne_zero (by simp)
theorem pow4s (d : Nat) : 4 ^ (d + 1) = 4 * 4 ^ d := by rw [Nat.pow_succ]; omega

theorem l1Some_tq : ∀ (d : Nat) (o : l15Rd) (K : Int), OkRd o K → d ≤ 12 → K + ((4 ^ (d + 1) : Nat) : Int) ≤ 1000000000 → TQ (fun m => m_spec_l1Some m o (d : Int)) (fun r => OkRd r.2 (K + ((4 ^ (d + 1) : Nat) : Int)) ∧ r.1.w ≤ 4 ^ (d + 1)) := by
  intro d
  induction d with
  | zero =>
    intro o K h hd hK
    refine TQ.step (fun m => by rw [m_spec_l1Some]) ?_
    refine TQ.cond (fun hc => ?_) (fun hc => by simp at hc)
    refine TQ.bind (pick_tq o 4 K h (by omega)) (fun v hv => ?_)
    refine TQ.cond (fun _ => ?_) (fun _ => ?_)
    · refine TQ.bind (num_tq _ _ _ hv.1 (by omega) (by decide)) (fun w hw => TQ.val ⟨hw.1.mono (by simp; omega), by simp [Form.w, Form.ws]⟩)
    · refine TQ.bind (of_tq _ _ _ hv.1 (by omega) (by decide)) (fun w hw => ?_)
      exact TQ.ev (Tr.of (fun m => rfl)) (TQ.val ⟨hw.1.mono (by simp; omega), by simp [Form.w, Form.ws]⟩)
  | succ d ih =>
    intro o K h hd hK
    have p1 := pow4 d
    have p2 := pow4s d
    have p3 := pow4s (d + 1)
    refine TQ.step (fun m => by rw [m_spec_l1Some]) ?_
    refine TQ.cond (fun hc => by simp at hc; omega) (fun hc => ?_)
    refine TQ.bind (pick_tq o 3 K h (by omega)) (fun v hv => ?_)
    refine TQ.cond (fun _ => ?_) (fun _ => ?_)
    · refine TQ.bind (pick_tq _ 4 _ hv.1 (by omega)) (fun v hv => ?_)
      refine TQ.cond (fun _ => ?_) (fun _ => ?_)
      · refine TQ.bind (num_tq _ _ _ hv.1 (by omega) (by decide)) (fun w hw => TQ.val ⟨hw.1.mono (by omega), by simp only [Form.w, Form.ws, List.length_nil]; omega⟩)
      · refine TQ.bind (of_tq _ _ _ hv.1 (by omega) (by decide)) (fun w hw => ?_)
        exact TQ.ev (Tr.of (fun m => rfl)) (TQ.val ⟨hw.1.mono (by omega), by simp only [Form.w, Form.ws, List.length_nil]; omega⟩)
    · refine TQ.bind (pick_tq _ 4 _ hv.1 (by omega)) (fun v hv => ?_)
      obtain ⟨h1, _, h2, _⟩ := hv
      obtain ⟨h2, h3⟩ := h2 (by decide)
      have ed : w64 (((d + 1 : Nat) : Int) - 1) = (d : Int) := by rw [w64_in (by omega)]; omega
      have key : ∀ (j : Nat) (b : List Int) (p : Int) (l : List Form) (K' : Int), j ≤ 3 → OkRd ⟨b, p⟩ K' → K' + (j : Int) * ((4 ^ (d + 1) : Nat) : Int) ≤ 1000000000 → l.length ≤ 3 - j →
          TQ (fun m => m_spec_l1Some_l1 m ((d + 1 : Nat) : Int) (j : Int) b p l) (fun r => OkRd r.2 (K' + (j : Int) * ((4 ^ (d + 1) : Nat) : Int)) ∧ r.1.w ≤ 1 + Form.ws l + j * (1 + 4 ^ (d + 1))) := by
        intro j
        induction j with
        | zero =>
          intro b p l K' hj hb hK' hl
          refine TQ.step (fun m => by rw [m_spec_l1Some_l1]) ?_
          refine TQ.cond (fun hc => by simp at hc) (fun hc => TQ.val ⟨hb.mono (by simp), by simp [Form.w]⟩)
        | succ j ihj =>
          intro b p l K' hj hb hK' hl
          have em : ((j + 1 : Nat) : Int) * ((4 ^ (d + 1) : Nat) : Int) = (j : Int) * ((4 ^ (d + 1) : Nat) : Int) + ((4 ^ (d + 1) : Nat) : Int) := by rw [Int.natCast_add, Int.add_mul]; simp
          have e0 : 0 ≤ (j : Int) * ((4 ^ (d + 1) : Nat) : Int) := Int.mul_nonneg (by omega) (by omega)
          have en : (j + 1) * (1 + 4 ^ (d + 1)) = j * (1 + 4 ^ (d + 1)) + (1 + 4 ^ (d + 1)) := by rw [Nat.add_mul]; omega
          refine TQ.step (fun m => by rw [m_spec_l1Some_l1, ed]) ?_
          refine TQ.cond (fun hc => ?_) (fun hc => by exfalso; simp at hc; try omega)
          refine TQ.bind (ih _ K' hb (by omega) (by omega)) (fun v hv => ?_)
          refine TQ.chk (by simp; omega) ?_
          have ew : w64 (((j + 1 : Nat) : Int) - 1) = (j : Int) := by rw [w64_in (by omega)]; omega
          rw [ew]
          refine (ihj _ _ _ _ (by omega) hv.1.mk' (by omega) (by simp; omega)).mono (fun r hr => ⟨hr.1.mono (by omega), ?_⟩)
          have := hr.2
          rw [Form.ws_append] at this
          simp only [Form.ws] at this
          omega
      obtain ⟨j, hj⟩ := Int.eq_ofNat_of_zero_le h2
      rw [hj]
      have hj3 : j ≤ 3 := by omega
      have hm : (j : Int) * ((4 ^ (d + 1) : Nat) : Int) ≤ 3 * ((4 ^ (d + 1) : Nat) : Int) := Int.mul_le_mul_of_nonneg_right (by omega) (by omega)
      have hm2 : j * (1 + 4 ^ (d + 1)) ≤ 3 * (1 + 4 ^ (d + 1)) := Nat.mul_le_mul_right _ hj3
      refine (key j _ _ [] (K + 1 + 1) hj3 h1.mk' (by omega) (by simp)).mono (fun r hr => ⟨hr.1.mono (by omega), ?_⟩)
      have := hr.2
      simp only [Form.ws] at this
      omega

/-! ### copies -/
theorem l1Copy_tr : ∀ (n : Nat) (f : Form), f.w ≤ n → f.w ≤ 2 ^ 36 → Tr (fun m => m_spec_l1Copy m f) f := by
  intro n
  induction n with
  | zero => intro f h _; have := f.w_kids; omega
  | succ n ih =>
    intro f h hb
    have hw := f.w_kids
    have hl := Form.ws_len f.kids
    refine Tr.step (fun m => by rw [m_spec_l1Copy]) ?_
    refine Tr.chk (by simp; omega) ?_
    have key := drop_ind f.kids (fun k ys => ∀ acc : List Form, acc.length = k → Tr (fun m => m_spec_l1Copy_l1 m f (k : Int) acc) (Form.mk f.kind f.name f.n f.scopes (acc ++ ys))) ?_ ?_ 0 (Nat.zero_le _) [] rfl
    · rw [List.drop_zero, List.nil_append] at key
      obtain ⟨a, b, c, d, e⟩ := f
      exact key
    · intro acc _
      refine Tr.step (fun m => by rw [m_spec_l1Copy_l1, ltN_self]) ?_
      rw [List.append_nil]; exact Tr.val
    · intro k x xs hk hx hd ihk acc hacc
      have hmem : x ∈ f.kids := List.mem_of_getElem? hx
      have hxw := Form.ws_mem hmem
      refine Tr.step (fun m => by rw [m_spec_l1Copy_l1, ltN hk, idx_nat hx, succN]) ?_
      refine Tr.bind (ih x (by omega) (by omega)) ?_
      refine Tr.chk (by simp; omega) ?_
      have := ihk (acc ++ [x]) (by simp; exact hacc)
      rwa [List.append_assoc] at this
theorem l6Copy_tr : ∀ (n : Nat) (f : Core), f.w ≤ n → f.w ≤ 2 ^ 36 → Tr (fun m => m_spec_l6Copy m f) f := by
  intro n
  induction n with
  | zero => intro f h _; have := f.w_kids; omega
  | succ n ih =>
    intro f h hb
    have hw := f.w_kids
    have hl := Core.ws_len f.kids
    refine Tr.step (fun m => by rw [m_spec_l6Copy]) ?_
    refine Tr.chk (by simp; omega) ?_
    refine Tr.bind (l1Copy_tr _ f.data (Nat.le_refl _) (by omega)) ?_
    have key := drop_ind f.kids (fun k ys => ∀ acc : List Core, acc.length = k → Tr (fun m => m_spec_l6Copy_l1 m f f.data (k : Int) acc) (Core.mk f.kind f.id f.name f.n f.ids f.data (acc ++ ys))) ?_ ?_ 0 (Nat.zero_le _) [] rfl
    · rw [List.drop_zero, List.nil_append] at key
      obtain ⟨a, b, c, d, e, g, h⟩ := f
      exact key
    · intro acc _
      refine Tr.step (fun m => by rw [m_spec_l6Copy_l1, ltN_self]) ?_
      rw [List.append_nil]; exact Tr.val
    · intro k x xs hk hx hd ihk acc hacc
      have hmem : x ∈ f.kids := List.mem_of_getElem? hx
      have hxw := Core.ws_mem hmem
      refine Tr.step (fun m => by rw [m_spec_l6Copy_l1, ltN hk, idx_nat hx, succN]) ?_
      refine Tr.bind (ih x (by omega) (by omega)) ?_
      refine Tr.chk (by simp; omega) ?_
      have := ihk (acc ++ [x]) (by simp; exact hacc)
      rwa [List.append_assoc] at this
end Go.Abs
