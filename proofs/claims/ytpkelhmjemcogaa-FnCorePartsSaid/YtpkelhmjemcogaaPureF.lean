/- The laws on free names and sizes: their mirrors answer true. -/
import Derived.Test.YtpkelhmjemcogaaPureE
set_option linter.unusedVariables false
set_option linter.unusedSimpArgs false
namespace Go.Abs

theorem FnFreeOf_law (code : List Int) (h : ∀ x ∈ code, 0 ≤ x ∧ x < 256) : TQ (fun m => m_laws_FnFreeOf m code) (fun r => r = true) := by
  refine TQ.eq (fun m => by unfold m_laws_FnFreeOf; rfl) ?_
  refine TQ.cond (fun _ => TQ.val rfl) (fun _ => ?_)
  refine TQ.bind (DrawFreeOf_tq code h) (fun c hc => ?_)
  obtain ⟨hw, hL⟩ := hc
  refine TQ.ev (FreeOf_tr c (by omega)) (TQ.ev (specFreeOf_tr c (by omega)) (TQ.ev (mxTexts_self _) ?_))
  refine TQ.cond (fun hc => by cases hc) (fun _ => ?_)
  have hnd := Core.free_nodup c [] List.nodup_nil
  have hlen := Core.free_len c []
  have hone : c.kind = 2 → Core.free [] c = [c.name] := fun hk => by
    rw [Core.free_eq, hL hk, Core.frees]
    simp [Core.put, hk, has]
  revert hnd hone hlen
  generalize Core.free [] c = l
  intro hnd hlen hone
  have hlen : l.length ≤ 2 ^ 20 := by simp at hlen; omega
  have main : ∀ i : Nat, i ≤ l.length → TQ (fun m => m_laws_FnFreeOf_l1 m c l (i : Int)) (fun r => r = true) := by
    have key : ∀ n i, l.length - i = n → i ≤ l.length → TQ (fun m => m_laws_FnFreeOf_l1 m c l (i : Int)) (fun r => r = true) := by
      intro n
      induction n with
      | zero =>
        intro i hn hi
        have : i = l.length := by omega
        subst this
        refine TQ.step (fun m => by rw [m_laws_FnFreeOf_l1, ltN_self, cond_false]) ?_
        refine TQ.cond (fun _ => TQ.val rfl) (fun hk => ?_)
        have hk : c.kind = 2 := by simpa using hk
        rw [hone hk]
        refine TQ.cond (fun _ => ?_) (fun hc => by simp at hc)
        exact ⟨_, Tr.idx (x := c.name) rfl Tr.val, by simp⟩
      | succ n ih =>
        intro i hn hi
        have hlt : i < l.length := by omega
        have hi1 := List.getElem?_eq_getElem hlt
        refine TQ.step (fun m => by rw [m_laws_FnFreeOf_l1, ltN hlt, cond_true]) ?_
        have inner : ∀ n k, i - k = n → k ≤ i → TQ (fun m => m_laws_FnFreeOf_l2 m c l (i : Int) (k : Int)) (fun r => r = true) := by
          intro n
          induction n with
          | zero =>
            intro k hn2 hk
            have : k = i := by omega
            subst this
            refine TQ.step (fun m => by rw [m_laws_FnFreeOf_l2, ltN_self, cond_false, w64_in (by omega), succN]) ?_
            exact ih (k + 1) (by omega) (by omega)
          | succ n ih2 =>
            intro k hn2 hk
            have hki : k < i := by omega
            have hk1 := List.getElem?_eq_getElem (show k < l.length by omega)
            refine TQ.step (fun m => by rw [m_laws_FnFreeOf_l2, ltN hki, cond_true, idx_nat hi1, Option.bind_some, idx_nat hk1, Option.bind_some, w64_in (by omega), succN]) ?_
            refine TQ.cond (fun hc => ?_) (fun _ => ih2 (k + 1) (by omega) (by omega))
            exfalso
            have e : l[i] = l[k] := by simpa using hc
            have := (List.getElem_inj hnd).1 e
            omega
        exact inner i 0 (by omega) (by omega)
    exact fun i hi => key _ i rfl hi
  exact main 0 (Nat.zero_le _)

/-! ### sizes -/
mutual
def Core.size : Core → Nat
  | .mk _ _ _ _ _ _ kids => 1 + Core.sizes kids
def Core.sizes : List Core → Nat
  | [] => 0
  | c :: cs => c.size + Core.sizes cs
end
mutual
theorem Core.size_le : ∀ (c : Core), c.size ≤ c.w
  | .mk kind id name n ids data kids => by
    have := Core.sizes_le kids
    simp only [Core.size, Core.w]; omega
theorem Core.sizes_le : ∀ (l : List Core), Core.sizes l ≤ Core.ws l
  | [] => by simp [Core.sizes]
  | c :: cs => by
    have h1 := Core.size_le c
    have h2 := Core.sizes_le cs
    rw [Core.sizes, Core.ws]; omega
end
theorem Core.size_kids (c : Core) : c.size = 1 + Core.sizes c.kids := by obtain ⟨a, b, d, e, f, g, h⟩ := c; rfl
theorem CoreSize_tr : ∀ (n : Nat) (c : Core), c.w ≤ n → c.w ≤ 2 ^ 40 → Tr (fun m => m_impl_CoreSize m c) (c.size : Int) := by
  intro n
  induction n with
  | zero => intro c h; have := c.w_kids; omega
  | succ n ih =>
    intro c h hb
    have hw := c.w_kids
    have hs := Core.sizes_le c.kids
    have key := drop_ind c.kids (fun k ys => ∀ a : Nat, a + Core.sizes ys ≤ 2 ^ 41 → Tr (fun m => m_impl_CoreSize_l1 m c (a : Int) (k : Int)) ((a + Core.sizes ys : Nat) : Int)) ?_ ?_ 0 (Nat.zero_le _) 1 (by rw [List.drop_zero]; omega)
    · rw [List.drop_zero] at key
      rw [Core.size_kids]
      exact Tr.step (fun m => by rw [m_impl_CoreSize]; rfl) key
    · intro a _
      exact Tr.step (fun m => by rw [m_impl_CoreSize_l1, ltN_self, cond_false, Core.sizes, Nat.add_zero]) Tr.val
    · intro k x xs hk hx hd ihk a ha
      have hxw := Core.ws_mem (List.mem_of_getElem? hx)
      rw [Core.sizes] at ha ⊢
      refine Tr.step (fun m => by rw [m_impl_CoreSize_l1, ltN hk, cond_true, idx_nat hx, Option.bind_some, succN]) ?_
      refine Tr.bind (ih x (by omega) (by omega)) ?_
      have e : w64 ((a : Int) + (x.size : Int)) = ((a + x.size : Nat) : Int) := by rw [w64_in (by omega)]; simp
      rw [e]
      have := ihk (a + x.size) (by omega)
      rwa [Nat.add_assoc] at this
theorem l6Count_tr : ∀ (n : Nat) (c : Core), c.w ≤ n → c.w ≤ 2 ^ 40 → Tr (fun m => m_spec_l6Count m c) (c.size : Int) := by
  intro n
  induction n with
  | zero => intro c h; have := c.w_kids; omega
  | succ n ih =>
    intro c h hb
    have hw := c.w_kids
    have hs := Core.sizes_le c.kids
    have key := drop_ind c.kids (fun k ys => ∀ a : Nat, a + Core.sizes ys ≤ 2 ^ 41 → Tr (fun m => m_spec_l6Count_l1 m c (a : Int) (k : Int)) ((a + Core.sizes ys : Nat) : Int)) ?_ ?_ 0 (Nat.zero_le _) 1 (by rw [List.drop_zero]; omega)
    · rw [List.drop_zero] at key
      rw [Core.size_kids]
      exact Tr.step (fun m => by rw [m_spec_l6Count]; rfl) key
    · intro a _
      exact Tr.step (fun m => by rw [m_spec_l6Count_l1, ltN_self, cond_false, Core.sizes, Nat.add_zero]) Tr.val
    · intro k x xs hk hx hd ihk a ha
      have hxw := Core.ws_mem (List.mem_of_getElem? hx)
      rw [Core.sizes] at ha ⊢
      refine Tr.step (fun m => by rw [m_spec_l6Count_l1, ltN hk, cond_true, idx_nat hx, Option.bind_some, succN]) ?_
      refine Tr.bind (ih x (by omega) (by omega)) ?_
      have e : w64 ((a : Int) + (x.size : Int)) = ((a + x.size : Nat) : Int) := by rw [w64_in (by omega)]; simp
      rw [e]
      have := ihk (a + x.size) (by omega)
      rwa [Nat.add_assoc] at this
theorem specCoreSize_tr (c : Core) (hb : c.w ≤ 2 ^ 40) : Tr (fun m => m_spec_CoreSize m c) (c.size : Int) :=
  Tr.eq (fun m => by unfold m_spec_CoreSize; rfl) (Tr.bind (l6Count_tr _ c (Nat.le_refl _) hb) Tr.val)

/-! ### free names of parts -/
theorem Core.put_has {out : List ByteArray} (c : Core) {s : ByteArray} : s ∈ Core.put out c ↔ s ∈ out ∨ (c.kind = 2 ∧ s = c.name) := by
  unfold Core.put
  by_cases hk : c.kind = 2
  · cases he : has out c.name with
    | true =>
      have := has_iff.1 he
      simp only [hk, decide_true, cond_true, true_and]
      exact ⟨fun h => .inl h, fun h => h.elim (fun h => h) (fun e => by rw [e]; exact this)⟩
    | false => simp [hk]
  · simp [hk]
mutual
/-- All names of free variables. -/
def Core.fn (s : ByteArray) : Core → Prop
  | .mk kind _ name _ _ _ kids => (kind = 2 ∧ s = name) ∨ Core.fns s kids
def Core.fns (s : ByteArray) : List Core → Prop
  | [] => False
  | c :: cs => Core.fn s c ∨ Core.fns s cs
end
mutual
theorem Core.free_mem (s : ByteArray) : ∀ (c : Core) (out : List ByteArray), s ∈ Core.free out c ↔ s ∈ out ∨ Core.fn s c
  | .mk kind id name n ids data kids, out => by
    rw [Core.free_eq]
    show s ∈ Core.frees _ kids ↔ _
    rw [Core.frees_mem s kids, Core.put_has, Core.fn, or_assoc]
    rfl
theorem Core.frees_mem (s : ByteArray) : ∀ (l : List Core) (out : List ByteArray), s ∈ Core.frees out l ↔ s ∈ out ∨ Core.fns s l
  | [], out => by rw [Core.frees, Core.fns]; simp
  | c :: cs, out => by rw [Core.frees, Core.frees_mem s cs, Core.free_mem s c, Core.fns, or_assoc]
end
theorem Core.fns_mem {s : ByteArray} : ∀ {l : List Core} {x : Core}, x ∈ l → Core.fn s x → Core.fns s l
  | c :: cs, x, h, hf => by
    rw [Core.fns]
    rcases List.mem_cons.1 h with rfl | h
    · exact .inl hf
    · exact .inr (Core.fns_mem h hf)
theorem FnCoreParts_law (code : List Int) (h : ∀ x ∈ code, 0 ≤ x ∧ x < 256) : TQ (fun m => m_laws_FnCoreParts m code) (fun r => r = true) := by
  refine TQ.eq (fun m => by unfold m_laws_FnCoreParts; rfl) ?_
  refine TQ.cond (fun _ => TQ.val rfl) (fun _ => ?_)
  refine TQ.bind (DrawCoreSize_tq code h) (fun c hc => ?_)
  obtain ⟨hw, _⟩ := hc
  have hk := c.w_kids
  refine TQ.ev (CoreSize_tr _ c (Nat.le_refl _) (by omega)) (TQ.ev (specCoreSize_tr c (by omega)) ?_)
  refine TQ.cond (fun hc => by simp at hc) (fun _ => ?_)
  refine TQ.ev (FreeOf_tr c (by omega)) (TQ.ev (specFreeOf_tr c (by omega)) (TQ.ev (mxTexts_self _) ?_))
  refine TQ.cond (fun hc => by cases hc) (fun _ => ?_)
  have key := drop_ind c.kids (fun k ys => ∀ a : Nat, a + Core.sizes ys = c.size → a ≤ 2 ^ 41 → TQ (fun m => m_laws_FnCoreParts_l1 m c (c.size : Int) (a : Int) (k : Int)) (fun r => r = true)) ?_ ?_ 0 (Nat.zero_le _) 1 (by rw [List.drop_zero, Core.size_kids]) (by omega)
  · exact key
  · intro a ha _
    refine TQ.step (fun m => by rw [m_laws_FnCoreParts_l1, ltN_self, cond_false]) (TQ.val ?_)
    rw [Core.sizes] at ha
    simp; omega
  · intro k x xs hk1 hx hd ihk a ha ha2
    have hmem := List.mem_of_getElem? hx
    have hxw := Core.ws_mem hmem
    have hxs := Core.size_le x
    have hcs := Core.size_le c
    rw [Core.sizes] at ha
    refine TQ.step (fun m => by rw [m_laws_FnCoreParts_l1, ltN hk1, cond_true, idx_nat hx, Option.bind_some]) ?_
    refine TQ.ev (CoreSize_tr _ x (Nat.le_refl _) (by omega)) ?_
    refine TQ.ev Tr.val ?_
    refine TQ.ev (FreeOf_tr x (by omega)) ?_
    have sub : ∀ s ∈ Core.free [] x, s ∈ Core.free [] c := fun s hs => by
      rw [Core.free_mem] at hs ⊢
      rcases hs with hs | hs
      · cases hs
      · refine .inr ?_
        obtain ⟨a1, b1, d1, e1, f1, g1, h1⟩ := c
        rw [Core.fn]
        exact .inr (Core.fns_mem hmem hs)
    refine drop_ind (Core.free [] x) (fun j _ => TQ (fun m => m_laws_FnCoreParts_l2 m c (c.size : Int) (a : Int) (k : Int) (x.size : Int) (Core.free [] x) (j : Int)) (fun r => r = true)) ?_ ?_ 0 (Nat.zero_le _)
    · refine TQ.step (fun m => by rw [m_laws_FnCoreParts_l2, ltN_self, cond_false]) ?_
      have e : w64 ((a : Int) + (x.size : Int)) = ((a + x.size : Nat) : Int) := by rw [w64_in (by omega)]; simp
      have hl := Core.ws_len c.kids
      have e2 : w64 ((k : Int) + 1) = ((k + 1 : Nat) : Int) := by rw [w64_in (by omega)]; simp
      rw [e, e2]
      exact ihk (a + x.size) (by omega) (by omega)
    · intro j y ys hj hy hdy ihj
      refine TQ.step (fun m => by rw [m_laws_FnCoreParts_l2, ltN hj, cond_true]) ?_
      refine TQ.ev (FreeOf_tr c (by omega)) ?_
      refine TQ.eq (fun m => by rw [idx_nat hy, Option.bind_some]) ?_
      refine TQ.ev (mxName_tr _ _) ?_
      rw [has_iff.2 (sub y (List.mem_of_getElem? hy))]
      refine TQ.cond (fun hc => by cases hc) (fun _ => ?_)
      have hl2 := Core.free_len x []
      have e2 : (j : Int) + 1 = ((j + 1 : Nat) : Int) := by simp
      rw [e2]; exact ihj
end Go.Abs
