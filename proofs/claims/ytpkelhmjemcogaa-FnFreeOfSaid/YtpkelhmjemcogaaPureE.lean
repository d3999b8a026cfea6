/- Free names and sizes of core programs: what the program answers, and what the reference answers. -/
import Derived.Test.YtpkelhmjemcogaaPureD
set_option linter.unusedVariables false
set_option linter.unusedSimpArgs false
namespace Go.Abs

/-! ### lists of texts -/
def has : List ByteArray → ByteArray → Bool
  | [], _ => false
  | x :: xs, s => decide (x = s) || has xs s
theorem has_self (x : ByteArray) (xs : List ByteArray) : has (x :: xs) x = true := by simp [has]
theorem has_iff : ∀ {l : List ByteArray} {s : ByteArray}, has l s = true ↔ s ∈ l
  | [], s => by simp [has]
  | x :: xs, s => by
    rw [has, Bool.or_eq_true, decide_eq_true_eq, has_iff, List.mem_cons]
    exact ⟨fun h => h.imp Eq.symm id, fun h => h.imp Eq.symm id⟩
theorem slIndex_tr (l : List ByteArray) (s : ByteArray) : Tr (fun m => m_slices_Index_string_string m l s) (bif has l s then (l.findIdx (fun x => decide (s = x)) : Int) else -1) := by
  have key := drop_ind l (fun k ys => Tr (fun m => m_slices_Index_string_string_l1 m l s (k : Int)) (bif has ys s then ((k + ys.findIdx (fun x => decide (s = x)) : Nat) : Int) else -1)) ?_ ?_ 0 (Nat.zero_le _)
  · refine Tr.eq (fun m => by unfold m_slices_Index_string_string; rfl) ?_
    simpa using key
  · exact Tr.step (fun m => by rw [m_slices_Index_string_string_l1, ltN_self, cond_false]; simp [has]) Tr.val
  · intro k x xs hk hx hd ih
    refine Tr.step (fun m => by rw [m_slices_Index_string_string_l1, ltN hk, cond_true, idx_nat hx, Option.bind_some, succN]) ?_
    by_cases h : s = x
    · subst h
      exact Tr.tt (by simp) (Tr.of (fun m => by simp [List.findIdx_cons, has_self]))
    · refine Tr.ff (by simpa using h) ?_
      have e : has (x :: xs) s = has xs s := by rw [has, decide_eq_false (fun e : x = s => h e.symm)]; rfl
      rw [e, List.findIdx_cons]
      simp only [h, decide_false, cond_false]
      rw [show k + 1 + xs.findIdx (fun x => decide (s = x)) = k + (xs.findIdx (fun x => decide (s = x)) + 1) by omega] at ih
      exact ih
theorem slContains_tr (l : List ByteArray) (s : ByteArray) : Tr (fun m => m_slices_Contains_string_string m l s) (has l s) := by
  refine Tr.eq (fun m => by unfold m_slices_Contains_string_string; rfl) ?_
  refine Tr.bind (slIndex_tr l s) ?_
  cases has l s
  · exact Tr.of (fun m => by simp)
  · exact Tr.of (fun m => by simp)
theorem l1In_tr (l : List ByteArray) (s : ByteArray) : Tr (fun m => m_spec_l1In m l s) (has l s) := by
  have key := drop_ind l (fun k ys => Tr (fun m => m_spec_l1In_l1 m l s (k : Int)) (has ys s)) ?_ ?_ 0 (Nat.zero_le _)
  · exact Tr.eq (fun m => by unfold m_spec_l1In; rfl) (by simpa using key)
  · exact Tr.step (fun m => by rw [m_spec_l1In_l1, ltN_self, cond_false]; simp [has]) Tr.val
  · intro k x xs hk hx hd ih
    refine Tr.step (fun m => by rw [m_spec_l1In_l1, ltN hk, cond_true, idx_nat hx, Option.bind_some, succN]) ?_
    by_cases h : x = s
    · subst h
      exact Tr.tt (by simp) (Tr.of (fun m => by rw [has_self]))
    · refine Tr.ff (by simpa using h) ?_
      have e : has (x :: xs) s = has xs s := by simp [has, h]
      rw [e]; exact ih
theorem mxName_tr (l : List ByteArray) (s : ByteArray) : Tr (fun m => m_laws_mxName m l s) (has l s) := by
  have key := drop_ind l (fun k ys => Tr (fun m => m_laws_mxName_l1 m l s (k : Int)) (has ys s)) ?_ ?_ 0 (Nat.zero_le _)
  · exact Tr.eq (fun m => by unfold m_laws_mxName; rfl) (by simpa using key)
  · exact Tr.step (fun m => by rw [m_laws_mxName_l1, ltN_self, cond_false]; simp [has]) Tr.val
  · intro k x xs hk hx hd ih
    refine Tr.step (fun m => by rw [m_laws_mxName_l1, ltN hk, cond_true, idx_nat hx, Option.bind_some, succN]) ?_
    by_cases h : x = s
    · subst h
      exact Tr.tt (by simp) (Tr.of (fun m => by rw [has_self]))
    · refine Tr.ff (by simpa using h) ?_
      have e : has (x :: xs) s = has xs s := by simp [has, h]
      rw [e]; exact ih
theorem mxTexts_self (l : List ByteArray) : Tr (fun m => m_laws_mxTexts m l l) true := by
  have key := drop_ind l (fun k ys => Tr (fun m => m_laws_mxTexts_l1 m l l (k : Int)) true) ?_ ?_ 0 (Nat.zero_le _)
  · refine Tr.eq (fun m => by unfold m_laws_mxTexts; rfl) ?_
    exact Tr.ff (by simp) key
  · exact Tr.step (fun m => by rw [m_laws_mxTexts_l1, ltN_self, cond_false]) Tr.val
  · intro k x xs hk hx hd ih
    refine Tr.step (fun m => by rw [m_laws_mxTexts_l1, ltN hk, cond_true, idx_nat hx, Option.bind_some, Option.bind_some, succN]) ?_
    exact Tr.ff (by simp) ih

/-! ### free names -/
mutual
def Core.free : List ByteArray → Core → List ByteArray
  | out, .mk kind _ name _ _ _ kids => Core.frees (bif decide (kind = 2) then (bif has out name then out else out ++ [name]) else out) kids
def Core.frees : List ByteArray → List Core → List ByteArray
  | out, [] => out
  | out, c :: cs => Core.frees (Core.free out c) cs
end
def Core.put (out : List ByteArray) (c : Core) : List ByteArray := bif decide (c.kind = 2) then (bif has out c.name then out else out ++ [c.name]) else out
theorem Core.free_eq (out : List ByteArray) (c : Core) : Core.free out c = Core.frees (Core.put out c) c.kids := by obtain ⟨a, b, d, e, f, g, h⟩ := c; rfl
theorem Core.put_len (out : List ByteArray) (c : Core) : (Core.put out c).length ≤ out.length + 1 := by
  unfold Core.put
  cases decide (c.kind = 2) <;> cases has out c.name <;> simp
mutual
theorem Core.free_len : ∀ (c : Core) (out : List ByteArray), (Core.free out c).length ≤ out.length + c.w
  | .mk kind id name n ids data kids, out => by
    have h1 := Core.put_len out (.mk kind id name n ids data kids)
    have h2 := Core.frees_len kids (Core.put out (.mk kind id name n ids data kids))
    rw [Core.free_eq]
    simp only [Core.w]
    show (Core.frees _ kids).length ≤ _
    omega
theorem Core.frees_len : ∀ (l : List Core) (out : List ByteArray), (Core.frees out l).length ≤ out.length + Core.ws l
  | [], out => by simp [Core.frees]
  | c :: cs, out => by
    have h1 := Core.free_len c out
    have h2 := Core.frees_len cs (Core.free out c)
    rw [Core.frees, Core.ws]; omega
end

theorem freeOf_f_tr : ∀ (n : Nat) (c : Core) (out : List ByteArray), c.w ≤ n → out.length + c.w ≤ 2 ^ 40 → Tr (fun m => m_impl_freeOf_f m c out) (Core.free out c) ∧ (∀ k, k ≤ c.kids.length → ∀ acc : List ByteArray, acc.length + Core.ws (c.kids.drop k) ≤ 2 ^ 40 → Tr (fun m => m_impl_freeOf_f_l1 m c acc (k : Int)) (Core.frees acc (c.kids.drop k))) := by
  intro n
  induction n with
  | zero => intro c out h; have := c.w_kids; omega
  | succ n ih =>
    intro c out h hb
    have hw := c.w_kids
    have loop : ∀ k, k ≤ c.kids.length → ∀ acc : List ByteArray, acc.length + Core.ws (c.kids.drop k) ≤ 2 ^ 40 → Tr (fun m => m_impl_freeOf_f_l1 m c acc (k : Int)) (Core.frees acc (c.kids.drop k)) := by
      refine drop_ind c.kids (fun k ys => ∀ acc : List ByteArray, acc.length + Core.ws ys ≤ 2 ^ 40 → Tr (fun m => m_impl_freeOf_f_l1 m c acc (k : Int)) (Core.frees acc ys)) ?_ ?_
      · intro acc _
        exact Tr.step (fun m => by rw [m_impl_freeOf_f_l1, ltN_self, cond_false, Core.frees]) Tr.val
      · intro k x xs hk hx hd ihk acc hacc
        have hxw := Core.ws_mem (List.mem_of_getElem? hx)
        have hf := Core.free_len x acc
        rw [Core.ws] at hacc
        refine Tr.step (fun m => by rw [m_impl_freeOf_f_l1, ltN hk, idx_nat hx, succN]) ?_
        refine Tr.bind (ih x acc (by omega) (by omega)).1 ?_
        rw [Core.frees]
        exact ihk _ (by omega)
    refine ⟨?_, loop⟩
    have l0 := loop 0 (Nat.zero_le _)
    rw [List.drop_zero] at l0
    rw [Core.free_eq]
    refine Tr.step (fun m => by rw [m_impl_freeOf_f]) ?_
    unfold Core.put
    cases hk : decide (c.kind = 2) with
    | false => exact Tr.ff rfl (l0 out (by omega))
    | true =>
      refine Tr.tt rfl (Tr.bind (slContains_tr _ _) ?_)
      cases he : has out c.name with
      | true => exact Tr.ff rfl (l0 out (by omega))
      | false => exact Tr.tt rfl (Tr.chk (by simp; omega) (l0 _ (by simp; omega)))
theorem FreeOf_tr (c : Core) (hb : c.w ≤ 2 ^ 36) : Tr (fun m => m_impl_FreeOf m c) (Core.free [] c) := by
  refine Tr.eq (fun m => by unfold m_impl_FreeOf; rfl) (Tr.bind ?_ Tr.val)
  have hw := c.w_kids
  have l0 := (freeOf_f_tr _ c [] (Nat.le_refl _) (by simp; omega)).2 0 (Nat.zero_le _)
  rw [List.drop_zero] at l0
  rw [Core.free_eq]
  refine Tr.eq (fun m => by unfold m_impl_freeOf_n; rfl) ?_
  unfold Core.put
  cases hk : decide (c.kind = 2) with
  | false => exact Tr.ff rfl (l0 [] (by simp; omega))
  | true =>
    refine Tr.tt rfl (Tr.bind (slContains_tr _ _) ?_)
    exact Tr.tt rfl (Tr.chk (by simp) (l0 _ (by simp; omega)))
theorem l6Free_f_tr : ∀ (n : Nat) (c : Core) (out : List ByteArray), c.w ≤ n → out.length + c.w ≤ 2 ^ 40 → Tr (fun m => m_spec_l6Free_f m out c) (Core.free out c) ∧ (∀ k, k ≤ c.kids.length → ∀ acc : List ByteArray, acc.length + Core.ws (c.kids.drop k) ≤ 2 ^ 40 → Tr (fun m => m_spec_l6Free_f_l1 m c acc (k : Int)) (Core.frees acc (c.kids.drop k))) := by
  intro n
  induction n with
  | zero => intro c out h; have := c.w_kids; omega
  | succ n ih =>
    intro c out h hb
    have hw := c.w_kids
    have loop : ∀ k, k ≤ c.kids.length → ∀ acc : List ByteArray, acc.length + Core.ws (c.kids.drop k) ≤ 2 ^ 40 → Tr (fun m => m_spec_l6Free_f_l1 m c acc (k : Int)) (Core.frees acc (c.kids.drop k)) := by
      refine drop_ind c.kids (fun k ys => ∀ acc : List ByteArray, acc.length + Core.ws ys ≤ 2 ^ 40 → Tr (fun m => m_spec_l6Free_f_l1 m c acc (k : Int)) (Core.frees acc ys)) ?_ ?_
      · intro acc _
        exact Tr.step (fun m => by rw [m_spec_l6Free_f_l1, ltN_self, cond_false, Core.frees]) Tr.val
      · intro k x xs hk hx hd ihk acc hacc
        have hxw := Core.ws_mem (List.mem_of_getElem? hx)
        have hf := Core.free_len x acc
        rw [Core.ws] at hacc
        refine Tr.step (fun m => by rw [m_spec_l6Free_f_l1, ltN hk, idx_nat hx, succN]) ?_
        refine Tr.bind (ih x acc (by omega) (by omega)).1 ?_
        rw [Core.frees]
        exact ihk _ (by omega)
    refine ⟨?_, loop⟩
    have l0 := loop 0 (Nat.zero_le _)
    rw [List.drop_zero] at l0
    rw [Core.free_eq]
    refine Tr.step (fun m => by rw [m_spec_l6Free_f]) ?_
    unfold Core.put
    cases hk : decide (c.kind = 2) with
    | false => exact Tr.ff rfl (l0 out (by omega))
    | true =>
      refine Tr.tt rfl (Tr.bind (l1In_tr _ _) ?_)
      cases he : has out c.name with
      | true => exact Tr.ff rfl (l0 out (by omega))
      | false => exact Tr.tt rfl (Tr.chk (by simp; omega) (l0 _ (by simp; omega)))
theorem specFreeOf_tr (c : Core) (hb : c.w ≤ 2 ^ 36) : Tr (fun m => m_spec_FreeOf m c) (Core.free [] c) := by
  refine Tr.eq (fun m => by unfold m_spec_FreeOf; rfl) (Tr.bind ?_ Tr.val)
  have hw := c.w_kids
  have l0 := (l6Free_f_tr _ c [] (Nat.le_refl _) (by simp; omega)).2 0 (Nat.zero_le _)
  rw [List.drop_zero] at l0
  rw [Core.free_eq]
  refine Tr.eq (fun m => by unfold m_spec_l6Free; rfl) ?_
  unfold Core.put
  cases hk : decide (c.kind = 2) with
  | false => exact Tr.ff rfl (l0 [] (by simp; omega))
  | true =>
    refine Tr.tt rfl (Tr.bind (l1In_tr _ _) ?_)
    exact Tr.tt rfl (Tr.chk (by simp) (l0 _ (by simp; omega)))

/-! ### no name is told twice -/
theorem Core.put_nodup {out : List ByteArray} (c : Core) (h : out.Nodup) : (Core.put out c).Nodup := by
  unfold Core.put
  cases decide (c.kind = 2) with
  | false => exact h
  | true =>
    cases he : has out c.name with
    | true => exact h
    | false =>
      simp only [cond_true, cond_false]
      rw [List.nodup_append]
      refine ⟨h, by simp, fun a ha b hb => ?_⟩
      simp at hb; subst hb
      intro e; subst e
      rw [has_iff.2 ha] at he; cases he
mutual
theorem Core.free_nodup : ∀ (c : Core) (out : List ByteArray), out.Nodup → (Core.free out c).Nodup
  | .mk kind id name n ids data kids, out, h => by
    rw [Core.free_eq]
    exact Core.frees_nodup kids _ (Core.put_nodup _ h)
theorem Core.frees_nodup : ∀ (l : List Core) (out : List ByteArray), out.Nodup → (Core.frees out l).Nodup
  | [], out, h => by rw [Core.frees]; exact h
  | c :: cs, out, h => by
    rw [Core.frees]
    exact Core.frees_nodup cs _ (Core.free_nodup c out h)
end
end Go.Abs
