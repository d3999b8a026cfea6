/- A part of the proof: what the functions that the law calls answer, as pure values. -/
import Derived.Test.YtehdhaaopmihaaaGreatDoorK0feca0ce77b3
import Derived.Test.YtehdhaaopmihaaaGreatDoorK2fa2763a6b98
import Derived.Test.YtehdhaaopmihaaaGreatDoorK98906b43c573
import Derived.Test.YtehdhaaopmihaaaGreatDoorKd19899f98c41
set_option linter.unusedSimpArgs false
set_option linter.unusedVariables false
section
set_option linter.unusedVariables false
set_option linter.unusedSimpArgs false
set_option maxHeartbeats 2000000
namespace Go.Abs
theorem hasS_tr (l : List ByteArray) (s : ByteArray) : Tr (fun m => m_slices_Contains_string m l s) (anys (fun y => decide (s = y)) l) := by
  refine Tr.eq (fun m => by unfold m_slices_Contains_string; rfl) (Tr.bind (v := fnd (fun y => decide (s = y)) l 0) ?_ (Tr.of fun m => by rw [fnd_any]))
  refine Tr.eq (fun m => by unfold m_slices_Index_string; rfl) ?_
  exact loop_find (L := fun m j => m_slices_Index_string_l1 m l s j) (E := fun m y => some (decide (s = y))) (fun m j => by rw [m_slices_Index_string_l1]; rfl) (fun y _ => Tr.val)
def frS (acc : List ByteArray) (nm : ByteArray) : List ByteArray := bif anys (fun y => decide (nm = y)) acc then acc else acc ++ [nm]
mutual
def Core.fr : Core → List ByteArray → List ByteArray
  | .mk k i nm n ids d kids, acc => Core.frs kids (bif decide (k = 2) then frS acc nm else acc)
def Core.frs : List Core → List ByteArray → List ByteArray
  | [], acc => acc
  | c :: cs, acc => Core.frs cs (c.fr acc)
end
theorem Core.fr_eq (c : Core) (acc : List ByteArray) : c.fr acc = Core.frs c.kids (bif decide (c.kind = 2) then frS acc c.name else acc) := by
  obtain ⟨a, b, c, d, e, f, g⟩ := c; rw [Core.fr]; rfl
theorem frS_len (acc : List ByteArray) (nm : ByteArray) : (frS acc nm).length ≤ acc.length + 1 := by
  unfold frS
  cases anys (fun y => decide (nm = y)) acc with
  | true => rw [cond_true]; omega
  | false => rw [cond_false, List.length_append]; simp
theorem fr_len : ∀ (n : Nat) (c : Core) (acc : List ByteArray), c.w ≤ n → (c.fr acc).length ≤ acc.length + c.w := by
  intro n
  induction n with
  | zero => intro c acc h; have := c.w_pos; omega
  | succ n ih =>
    intro c acc h
    have hw := c.w_kids
    have key : ∀ (l : List Core), (∀ x ∈ l, x ∈ c.kids) → ∀ acc : List ByteArray, (Core.frs l acc).length ≤ acc.length + Core.ws l := by
      intro l
      induction l with
      | nil => intro _ acc; rw [Core.frs]; omega
      | cons x l ihl =>
        intro hx acc
        have a := ihl (fun y hy => hx y (by simp [hy])) (x.fr acc)
        have b := ih x acc (by have := Core.ws_mem (hx x (by simp)); omega)
        rw [Core.frs, Core.ws]; omega
    rw [Core.fr_eq]
    have a := key c.kids (fun x hx => hx) (bif decide (c.kind = 2) then frS acc c.name else acc)
    have b := frS_len acc c.name
    cases hd : decide (c.kind = 2) with
    | true => rw [hd, cond_true] at a; rw [cond_true]; omega
    | false => rw [hd, cond_false] at a; rw [cond_false]; omega
theorem loop_fr (c : Core) (hb : c.w ≤ 2 ^ 36) (ih : ∀ x ∈ c.kids, ∀ acc : List ByteArray, acc.length + x.w ≤ 2 ^ 40 → Tr (fun m => m_impl_freeOf_f m x acc) (x.fr acc)) (acc : List ByteArray) (ha : acc.length + Core.ws c.kids ≤ 2 ^ 40) : Tr (fun m => m_impl_freeOf_f_l1 m c acc 0) (Core.frs c.kids acc) := by
  have key := drop_ind c.kids (fun k zs => ∀ acc : List ByteArray, acc.length + Core.ws zs ≤ 2 ^ 40 → Tr (fun m => m_impl_freeOf_f_l1 m c acc (k : Int)) (Core.frs zs acc)) ?_ ?_ 0 (Nat.zero_le _) acc ha
  · exact key
  · intro acc _
    refine Tr.step (fun m => by rw [m_impl_freeOf_f_l1, ltN_self, cond_false]) ?_
    rw [Core.frs]; exact Tr.val
  · intro k x zs hk hx hd ihk acc hacc
    rw [Core.ws] at hacc
    have := fr_len _ x acc (Nat.le_refl _)
    refine Tr.step (fun m => by rw [m_impl_freeOf_f_l1, ltN hk, cond_true, idx_nat hx, Option.bind_some, succN]) ?_
    refine Tr.bind (ih x (List.mem_of_getElem? hx) acc (by omega)) ?_
    rw [Core.frs]
    exact ihk _ (by omega)
theorem frStep {α : Type} (c : Core) (acc : List ByteArray) (ha : acc.length ≤ 2 ^ 40) {L : Nat → List ByteArray → Option α} {w : α} (h : Tr (fun m => L m (bif decide (c.kind = 2) then frS acc c.name else acc)) w) :
    Tr (fun m => bif decide (c.kind = 2) then (m_slices_Contains_string m acc c.name).bind fun v2 => bif (!v2) then chk (decide ((acc.length + [c.name].length) * 16 ≤ 140737488355328)) (L m (acc ++ [c.name])) else L m acc else L m acc) w := by
  cases hd : decide (c.kind = 2) with
  | false => rw [hd, cond_false] at h; exact Tr.ff rfl h
  | true =>
    refine Tr.tt rfl (Tr.bind (hasS_tr acc c.name) ?_)
    rw [hd, cond_true] at h
    unfold frS at h
    cases hh : anys (fun y => decide (c.name = y)) acc with
    | true => rw [hh, cond_true] at h; exact Tr.ff rfl h
    | false => rw [hh, cond_false] at h; exact Tr.tt rfl (Tr.chk (decide_eq_true (by simp; omega)) h)
theorem freeF_n : ∀ (n : Nat) (c : Core) (acc : List ByteArray), c.w ≤ n → c.w ≤ 2 ^ 36 → acc.length + c.w ≤ 2 ^ 40 → Tr (fun m => m_impl_freeOf_f m c acc) (c.fr acc) := by
  intro n
  induction n with
  | zero => intro c acc h; have := c.w_pos; omega
  | succ n ih =>
    intro c acc h hb ha
    have hw := c.w_kids
    refine Tr.step (fun m => by rw [m_impl_freeOf_f]) ?_
    refine frStep c acc (by omega) (L := fun m a => m_impl_freeOf_f_l1 m c a 0) ?_
    rw [Core.fr_eq]
    have e := frS_len acc c.name
    refine loop_fr c hb (fun x hx a hacc => ih x a (by have := Core.ws_mem hx; omega) (by have := Core.ws_mem hx; omega) hacc) _ ?_
    cases decide (c.kind = 2) with
    | true => rw [cond_true]; omega
    | false => rw [cond_false]; omega
theorem implFreeOf_tr (c : Core) (hb : c.w ≤ 2 ^ 36) : Tr (fun m => m_impl_FreeOf m c) (c.fr []) := by
  refine Tr.eq (fun m => by unfold m_impl_FreeOf; rfl) ?_
  refine Tr.bind (v := c.fr []) ?_ Tr.val
  refine Tr.eq (fun m => by unfold m_impl_freeOf_n; rfl) ?_
  have hw := c.w_kids
  rw [Core.fr_eq]
  have e := frS_len [] c.name
  have := frStep c [] (by simp) (L := fun m a => m_impl_freeOf_f_l1 m c a 0) (loop_fr c hb (fun x hx a hacc => freeF_n _ x a (Nat.le_refl _) (by have := Core.ws_mem hx; omega) hacc) (bif decide (c.kind = 2) then frS [] c.name else []) (by
    cases decide (c.kind = 2) with
    | true => rw [cond_true]; simp at e; omega
    | false => rw [cond_false]; simp; omega))
  refine Tr.eq (fun m => ?_) this
  simp
theorem mxTexts_tr (a b : List ByteArray) : Tr (fun m => m_laws_mxTexts m a b) (same a b) := by
  refine Tr.eq (fun m => by unfold m_laws_mxTexts; rfl) ?_
  by_cases h : a.length = b.length
  · exact Tr.ff (lenE h) (loop_eqI h (L := fun m k => m_laws_mxTexts_l1 m a b k) (fun m k => by rw [m_laws_mxTexts_l1]))
  · rw [same_len h]; exact Tr.tt (lenB h) Tr.val
theorem alks_parts {l r : List Int} : ∀ {xs ys : List Core}, xs.length = ys.length → Core.alks xs ys l r = true → ∀ (i : Nat) (x y : Core), xs[i]? = some x → ys[i]? = some y → x.alk y l r = true
  | [], ys, _, _, i, x, y, hx, _ => by simp at hx
  | a :: xs, [], hl, _, _, _, _, _, _ => by simp at hl
  | a :: xs, b :: ys, hl, h, i, x, y, hx, hy => by
    rw [Core.alks, Bool.and_eq_true] at h
    cases i with
    | zero => simp at hx hy; subst hx; subst hy; exact h.1
    | succ i => exact alks_parts (by simpa using hl) h.2 i x y (by simpa using hx) (by simpa using hy)
theorem alk_facts {a b : Core} {l r : List Int} (h : a.alk b l r = true) : a.kind = b.kind ∧ a.name = b.name ∧ a.kids.length = b.kids.length ∧ Core.alks a.kids b.kids (l ++ a.ids) (r ++ b.ids) = true := by
  rw [Core.alk_eq] at h
  simp only [Bool.and_eq_true, decide_eq_true_eq] at h
  exact ⟨h.1, h.2.1, h.2.2.2.2.2.1, h.2.2.2.2.2.2.2⟩
theorem alk_same : ∀ (n : Nat) (a b : Core) (l r : List Int), a.w ≤ n → a.alk b l r = true → a.cnt = b.cnt ∧ ∀ acc, a.fr acc = b.fr acc := by
  intro n
  induction n with
  | zero => intro a b l r h; have := a.w_pos; omega
  | succ n ih =>
    intro a b l r h hk
    have hw := a.w_kids
    obtain ⟨h1, h2, h3, h4⟩ := alk_facts hk
    have key : ∀ xs ys : List Core, xs.length = ys.length → (∀ x ∈ xs, x ∈ a.kids) → (∀ (i : Nat) (x y : Core), xs[i]? = some x → ys[i]? = some y → x.alk y (l ++ a.ids) (r ++ b.ids) = true) → Core.cnts xs = Core.cnts ys ∧ ∀ acc, Core.frs xs acc = Core.frs ys acc := by
      intro xs
      induction xs with
      | nil => intro ys hl _ _; have : ys = [] := List.eq_nil_of_length_eq_zero (by simpa using hl.symm); subst this; exact ⟨rfl, fun _ => rfl⟩
      | cons x xs ihx =>
        intro ys hl hm hal
        cases ys with
        | nil => simp at hl
        | cons y ys =>
          obtain ⟨e1, e2⟩ := ih x y _ _ (by have := Core.ws_mem (hm x (by simp)); omega) (hal 0 x y rfl rfl)
          obtain ⟨e3, e4⟩ := ihx ys (by simpa using hl) (fun z hz => hm z (by simp [hz])) (fun i x' y' hx' hy' => hal (i + 1) x' y' (by simpa using hx') (by simpa using hy'))
          refine ⟨by rw [Core.cnts, Core.cnts, e1, e3], fun acc => by rw [Core.frs, Core.frs, e2, e4]⟩
    obtain ⟨k1, k2⟩ := key a.kids b.kids h3 (fun x hx => hx) (alks_parts h3 h4)
    exact ⟨by rw [Core.cnt_eq, Core.cnt_eq, k1], fun acc => by rw [Core.fr_eq, Core.fr_eq, h1, h2, k2]⟩
theorem like_numbered {a b : Core} (h : a.like b = true) : a.numbered = b.numbered := by
  unfold Core.like at h
  simp only [Bool.and_eq_true] at h
  have key := (alk_num _ a b [] [] [] 0 120 120 (Nat.le_refl _) (valid_isOk h.1) (valid_isOk h.2.1) rfl rfl List.nodup_nil List.nodup_nil List.nodup_nil (by simp)).1 h.2.2
  unfold Core.numbered
  rw [h.1, h.2.1, key, num_snd key]
theorem FnAlikeText_law (code : List Int) (h : ∀ x ∈ code, 0 ≤ x ∧ x < 256) : TQ (fun m => m_laws_FnAlikeText m code) (fun r => r = true) := by
  refine TQ.eq (fun m => by unfold m_laws_FnAlikeText; rfl) (TQ.cond (fun _ => TQ.val rfl) (fun _ => ?_))
  refine TQ.bind (DrawCoreAlike_tq code h) (fun v hv => ?_)
  obtain ⟨⟨w1, f1⟩, w2, f2⟩ := hv
  refine ⟨true, ?_, rfl⟩
  have b1 : v.1.w ≤ 2 ^ 36 := by omega
  have b2 : v.2.w ≤ 2 ^ 36 := by omega
  refine Tr.bind (implCoreAlike_tr _ _ f1 f2 b1 b2) (Tr.bind (specCoreAlike_tr _ _ f1 f2 b1 b2) (Tr.ff (decide_eq_false (fun h => h rfl)) ?_))
  cases hk : v.1.like v.2 with
  | false =>
    refine Tr.step (fun m => by rw [Bool.not_false, m_laws_FnAlikeText_j1, cond_true]) (Tr.bind (specCoreAlike_tr _ _ f1 f2 b1 b2) ?_)
    rw [hk]; exact Tr.of (fun m => by rw [decide_eq_true rfl])
  | true =>
    have hn := like_numbered hk
    have hl := hk
    unfold Core.like at hl
    simp only [Bool.and_eq_true] at hl
    obtain ⟨e1, e2⟩ := alk_same _ v.1 v.2 [] [] (Nat.le_refl _) hl.2.2
    obtain ⟨n1, n2⟩ := Core.numbered_bd v.2 f2
    refine Tr.step (fun m => by rw [Bool.not_true, m_laws_FnAlikeText_j1, cond_false]) ?_
    refine Tr.bind (implNumberCore_tr _ f1 b1) (Tr.bind (implNumberCore_tr _ f2 b2) (Tr.bind (coreSize_n _ v.1 (Nat.le_refl _) b1) (Tr.bind (coreSize_n _ v.2 (Nat.le_refl _) b2) ?_)))
    refine Tr.tt (decide_eq_true (by rw [e1])) (Tr.bind (implFreeOf_tr _ b1) (Tr.bind (implFreeOf_tr _ b2) (Tr.bind (mxTexts_tr _ _) ?_)))
    rw [e2, same_self, hn]
    refine Tr.tt rfl (Tr.tt (decide_eq_true rfl) ?_)
    cases v.2.numbered.2 with
    | false => exact Tr.tt rfl Tr.val
    | true =>
      refine Tr.ff rfl (Tr.bind (implFormatCore_tr _ n2 (by omega)) (Tr.bind (implFormatCore_tr _ n2 (by omega)) ?_))
      exact Tr.of (fun m => by rw [decide_eq_true rfl])
end Go.Abs
end
