/- A part of the proof: what the functions that the law calls answer, as pure values. -/
import Derived.Lib.SlicesCompact
import Derived.Test.YtidbdmpbcpanjaaGreatDoorK064a2fe3a5b4
import Derived.Test.YtidbdmpbcpanjaaGreatDoorK10a31c29eeb6
set_option linter.unusedSimpArgs false
set_option linter.unusedVariables false
section
set_option linter.unusedVariables false
namespace Go.Abs
def Tr {α : Type} (F : Nat → Option α) (v : α) : Prop := ∃ n, ∀ m, n ≤ m → F m = some v
theorem Tr.val {α : Type} {v : α} : Tr (fun _ => some v) v := ⟨0, fun _ _ => rfl⟩
theorem Tr.of {α : Type} {F : Nat → Option α} {v : α} (h : ∀ m, F m = some v) : Tr F v := ⟨0, fun m _ => h m⟩
theorem Tr.bind {α β : Type} {f : Nat → Option α} {g : α → Nat → Option β} {v : α} {w : β} (h1 : Tr f v) (h2 : Tr (fun m => g v m) w) : Tr (fun m => (f m).bind fun x => g x m) w := by
  obtain ⟨n1, h1⟩ := h1
  obtain ⟨n2, h2⟩ := h2
  refine ⟨n1 + n2, fun m hm => ?_⟩
  show (f m).bind _ = _
  rw [h1 m (by omega)]
  exact h2 m (by omega)
theorem Tr.step {α : Type} {F G : Nat → Option α} {v : α} (h : ∀ m, F (m + 1) = G m) (hg : Tr G v) : Tr F v := by
  obtain ⟨n, hg⟩ := hg
  refine ⟨n + 1, fun m hm => ?_⟩
  obtain ⟨k, rfl⟩ : ∃ k, m = k + 1 := ⟨m - 1, by omega⟩
  rw [h, hg k (by omega)]
theorem Tr.eq {α : Type} {F G : Nat → Option α} {v : α} (h : ∀ m, F m = G m) (hg : Tr G v) : Tr F v := by
  obtain ⟨n, hg⟩ := hg
  exact ⟨n, fun m hm => by rw [h, hg m hm]⟩
theorem Tr.tt {α : Type} {F G : Nat → Option α} {b : Bool} {v : α} (hb : b = true) (h : Tr F v) : Tr (fun m => bif b then F m else G m) v := by subst hb; exact h
theorem Tr.ff {α : Type} {F G : Nat → Option α} {b : Bool} {v : α} (hb : b = false) (h : Tr G v) : Tr (fun m => bif b then F m else G m) v := by subst hb; exact h
theorem Tr.chk {α : Type} {F : Nat → Option α} {b : Bool} {v : α} (hb : b = true) (h : Tr F v) : Tr (fun m => Abs.chk b (F m)) v := by subst hb; exact h
theorem Tr.idx {α β : Type} {l : List α} {i : Int} {x : α} {g : α → Nat → Option β} {w : β} (hx : idx l i = some x) (h : Tr (fun m => g x m) w) : Tr (fun m => (Abs.idx l i).bind fun y => g y m) w := by
  rw [hx]; exact h
theorem Tr.get {α : Type} {F : Nat → Option α} {v : α} (h : Tr F v) : ∃ n, F n = some v := by
  obtain ⟨n, h⟩ := h; exact ⟨n, h n (Nat.le_refl n)⟩
theorem idx_nat {α : Type} {l : List α} {k : Nat} {x : α} (h : l[k]? = some x) : idx l (k : Int) = some x := by
  unfold idx
  simp [h]
theorem idx_int {α : Type} {l : List α} {i : Int} (h0 : 0 ≤ i) (h1 : i < l.length) : ∃ x, idx l i = some x ∧ x ∈ l := by
  obtain ⟨k, rfl⟩ := Int.eq_ofNat_of_zero_le h0
  have hk : k < l.length := by omega
  exact ⟨l[k], idx_nat (List.getElem?_eq_getElem hk), List.getElem_mem hk⟩
theorem drop_ind {α : Type} (l : List α) (motive : Nat → List α → Prop) (nil : motive l.length [])
    (cons : ∀ k x xs, k < l.length → l[k]? = some x → l.drop k = x :: xs → motive (k + 1) xs → motive k (x :: xs)) : ∀ k, k ≤ l.length → motive k (l.drop k) := by
  have key : ∀ n k, l.length - k = n → k ≤ l.length → motive k (l.drop k) := by
    intro n
    induction n with
    | zero =>
      intro k hk hle
      have : k = l.length := by omega
      subst this
      rw [List.drop_length]; exact nil
    | succ n ih =>
      intro k hk hle
      have hlt : k < l.length := by omega
      have := ih (k + 1) (by omega) (by omega)
      rw [List.drop_eq_getElem_cons hlt]
      exact cons k _ _ hlt (List.getElem?_eq_getElem hlt) (List.drop_eq_getElem_cons hlt) this
  exact fun k hk => key _ k rfl hk
theorem ltN {k n : Nat} (h : k < n) : decide ((k : Int) < (n : Int)) = true := by simpa using h
theorem ltN_self {n : Nat} : decide ((n : Int) < (n : Int)) = false := by simp
theorem succN (k : Nat) : (k : Int) + 1 = ((k + 1 : Nat) : Int) := by simp
theorem w64_in {n : Int} (h : -9223372036854775808 ≤ n ∧ n ≤ 9223372036854775807) : w64 n = n := IntWalk.i64_in n (by omega)
def TQ {α : Type} (F : Nat → Option α) (Q : α → Prop) : Prop := ∃ r, Tr F r ∧ Q r
theorem TQ.val {α : Type} {v : α} {Q : α → Prop} (h : Q v) : TQ (fun _ => some v) Q := ⟨v, Tr.val, h⟩
theorem TQ.bind {α β : Type} {f : Nat → Option α} {g : α → Nat → Option β} {Q : α → Prop} {R : β → Prop} (h1 : TQ f Q) (h2 : ∀ v, Q v → TQ (fun m => g v m) R) : TQ (fun m => (f m).bind fun x => g x m) R := by
  obtain ⟨v, h1, hq⟩ := h1
  obtain ⟨w, h2, hr⟩ := h2 v hq
  exact ⟨w, h1.bind h2, hr⟩
theorem TQ.ev {α β : Type} {f : Nat → Option α} {g : α → Nat → Option β} {v : α} {R : β → Prop} (h1 : Tr f v) (h2 : TQ (fun m => g v m) R) : TQ (fun m => (f m).bind fun x => g x m) R := by
  obtain ⟨w, h2, hr⟩ := h2
  exact ⟨w, h1.bind h2, hr⟩
theorem TQ.step {α : Type} {F G : Nat → Option α} {Q : α → Prop} (h : ∀ m, F (m + 1) = G m) (hg : TQ G Q) : TQ F Q := by
  obtain ⟨v, h1, hq⟩ := hg
  exact ⟨v, Tr.step h h1, hq⟩
theorem TQ.eq {α : Type} {F G : Nat → Option α} {Q : α → Prop} (h : ∀ m, F m = G m) (hg : TQ G Q) : TQ F Q := by
  obtain ⟨v, h1, hq⟩ := hg
  exact ⟨v, Tr.eq h h1, hq⟩
theorem TQ.cond {α : Type} {F G : Nat → Option α} {b : Bool} {Q : α → Prop} (h1 : b = true → TQ F Q) (h2 : b = false → TQ G Q) : TQ (fun m => bif b then F m else G m) Q := by
  cases b
  · exact h2 rfl
  · exact h1 rfl
theorem TQ.chk {α : Type} {F : Nat → Option α} {b : Bool} {Q : α → Prop} (hb : b = true) (h : TQ F Q) : TQ (fun m => Abs.chk b (F m)) Q := by subst hb; exact h
theorem TQ.idx {α β : Type} {l : List α} {i : Int} {g : α → Nat → Option β} {R : β → Prop} (h0 : 0 ≤ i) (h1 : i < l.length) (h : ∀ x, x ∈ l → TQ (fun m => g x m) R) : TQ (fun m => (Abs.idx l i).bind fun y => g y m) R := by
  obtain ⟨x, hx, hm⟩ := idx_int h0 h1
  obtain ⟨w, hw, hr⟩ := h x hm
  exact ⟨w, Tr.idx hx hw, hr⟩
theorem TQ.mono {α : Type} {F : Nat → Option α} {Q R : α → Prop} (h : TQ F Q) (hq : ∀ v, Q v → R v) : TQ F R := by
  obtain ⟨v, h1, h2⟩ := h; exact ⟨v, h1, hq v h2⟩
mutual
def Form.w : Form → Nat
  | .mk _ _ _ scopes kids => 1 + scopes.length + Form.ws kids
def Form.ws : List Form → Nat
  | [] => 0
  | f :: fs => 1 + f.w + Form.ws fs
end
mutual
def Core.w : Core → Nat
  | .mk _ _ _ _ ids data kids => 1 + ids.length + data.w + Core.ws kids
def Core.ws : List Core → Nat
  | [] => 0
  | f :: fs => 1 + f.w + Core.ws fs
end
theorem Form.ws_len : ∀ (l : List Form), l.length ≤ Form.ws l
  | [] => by simp
  | f :: fs => by have := Form.ws_len fs; rw [Form.ws, List.length_cons]; omega
theorem Core.ws_len : ∀ (l : List Core), l.length ≤ Core.ws l
  | [] => by simp
  | f :: fs => by have := Core.ws_len fs; rw [Core.ws, List.length_cons]; omega
theorem Form.ws_mem : ∀ {l : List Form} {x : Form}, x ∈ l → x.w < Form.ws l
  | f :: fs, x, h => by
    rw [Form.ws]
    rcases List.mem_cons.1 h with rfl | h
    · omega
    · have := Form.ws_mem h; omega
theorem Core.ws_mem : ∀ {l : List Core} {x : Core}, x ∈ l → x.w < Core.ws l
  | f :: fs, x, h => by
    rw [Core.ws]
    rcases List.mem_cons.1 h with rfl | h
    · omega
    · have := Core.ws_mem h; omega
theorem Form.ws_append (a b : List Form) : Form.ws (a ++ b) = Form.ws a + Form.ws b := by
  induction a with
  | nil => simp [Form.ws]
  | cons x a ih => rw [List.cons_append, Form.ws, Form.ws, ih]; omega
theorem Core.ws_append (a b : List Core) : Core.ws (a ++ b) = Core.ws a + Core.ws b := by
  induction a with
  | nil => simp [Core.ws]
  | cons x a ih => rw [List.cons_append, Core.ws, Core.ws, ih]; omega
theorem Form.w_kids (f : Form) : Form.ws f.kids + f.scopes.length + 1 = f.w := by obtain ⟨a, b, c, d, e⟩ := f; simp only [Form.w, Form.kids, Form.scopes]; omega
theorem Core.w_kids (f : Core) : Core.ws f.kids + f.ids.length + f.data.w + 1 = f.w := by obtain ⟨a, b, c, d, e, g, h⟩ := f; simp only [Core.w, Core.kids, Core.ids, Core.data]; omega
structure OkRd (r : l15Rd) (K : Int) : Prop where
  len : r.b.length ≤ 2000
  byte : ∀ x ∈ r.b, 0 ≤ x ∧ x < 256
  lo : 0 ≤ r.p
  hi : r.p ≤ K
theorem OkRd.mono {r : l15Rd} {K K' : Int} (h : OkRd r K) (hk : K ≤ K') : OkRd r K' := ⟨h.len, h.byte, h.lo, by have := h.hi; omega⟩
theorem OkRd.mk' {r : l15Rd} {K : Int} (h : OkRd r K) : OkRd (l15Rd.mk r.b r.p) K := h
end Go.Abs
end
section
section
set_option linter.unusedVariables false
set_option linter.unusedSimpArgs false
namespace Go.Abs
noncomputable def same {α : Type} (a b : α) : Bool := @decide (a = b) (Classical.propDecidable _)
theorem same_iff {α : Type} {a b : α} : same a b = true ↔ a = b := by unfold same; exact @decide_eq_true_iff _ (Classical.propDecidable _)
theorem same_self {α : Type} (a : α) : same a a = true := same_iff.2 rfl
theorem same_ne {α : Type} {a b : α} (h : a ≠ b) : same a b = false := by
  rw [← Bool.not_eq_true, same_iff]; exact h
theorem same_dec {α : Type} (a b : α) [inst : Decidable (a = b)] : same a b = decide (a = b) := by
  rw [Bool.eq_iff_iff, same_iff, decide_eq_true_iff]
theorem same_cons {α : Type} (a b : α) (xs ys : List α) : same (a :: xs) (b :: ys) = (same a b && same xs ys) := by
  rw [Bool.eq_iff_iff, Bool.and_eq_true, same_iff, same_iff, same_iff, List.cons.injEq]
theorem drop_get {α : Type} {l : List α} {k : Nat} {x : α} (h : l[k]? = some x) : l.drop k = x :: l.drop (k + 1) := by
  obtain ⟨hk, rfl⟩ := List.getElem?_eq_some_iff.1 h
  exact List.drop_eq_getElem_cons hk
theorem loop_eq {α : Type} {xs ys : List α} (hl : xs.length = ys.length) {L : Nat → Int → Option Bool} {E : Nat → α → α → Option Bool}
    (h0 : ∀ m k, L (m + 1) k = bif decide (k < (xs.length : Int)) then (idx xs k).bind fun a => (idx ys k).bind fun b => (E m a b).bind fun v => bif !v then some false else L m (k + 1) else some true)
    (hE : ∀ a ∈ xs, ∀ b ∈ ys, Tr (fun m => E m a b) (same a b)) : Tr (fun m => L m 0) (same xs ys) := by
  have key := drop_ind xs (fun k zs => Tr (fun m => L m (k : Int)) (same zs (ys.drop k))) ?_ ?_ 0 (Nat.zero_le _)
  · simpa using key
  · rw [hl, List.drop_length, same_self]
    exact Tr.step (fun m => by rw [h0, hl, ltN_self, cond_false]) Tr.val
  · intro k x zs hk hx hd ih
    have hk' : k < ys.length := by omega
    have hy : ys[k]? = some ys[k] := List.getElem?_eq_getElem hk'
    rw [drop_get hy, same_cons]
    refine Tr.step (fun m => by rw [h0, ltN hk, cond_true, idx_nat hx, Option.bind_some, idx_nat hy, Option.bind_some, succN]) ?_
    refine Tr.bind (hE x (List.mem_of_getElem? hx) ys[k] (List.getElem_mem hk')) ?_
    cases h : same x ys[k] with
    | false => exact Tr.tt rfl Tr.val
    | true => exact Tr.ff rfl ih
theorem loop_eqI {α : Type} [DecidableEq α] {xs ys : List α} (hl : xs.length = ys.length) {L : Nat → Int → Option Bool}
    (h0 : ∀ m k, L (m + 1) k = bif decide (k < (xs.length : Int)) then (idx xs k).bind fun a => (idx ys k).bind fun b => bif decide (a ≠ b) then some false else L m (k + 1) else some true) : Tr (fun m => L m 0) (same xs ys) :=
  loop_eq (E := fun _ a b => some (decide (a = b))) hl (fun m k => by
    rw [h0]; congr 1; congr 1; funext a; congr 1; funext b; rw [Option.bind_some]; congr 1; simp) (fun a _ b _ => Tr.of (fun _ => by rw [same_dec]))
def alls {α : Type} (D : α → Bool) : List α → Bool
  | [] => true
  | x :: xs => D x && alls D xs
theorem alls_iff {α : Type} {D : α → Bool} : ∀ {l : List α}, alls D l = true ↔ ∀ x ∈ l, D x = true
  | [] => by simp [alls]
  | x :: xs => by rw [alls, Bool.and_eq_true, alls_iff]; simp
theorem loop_all {α : Type} {xs : List α} {c : Bool} {D : α → Bool} {L : Nat → Int → Option Bool} {E : Nat → α → Option Bool}
    (h0 : ∀ m k, L (m + 1) k = bif decide (k < (xs.length : Int)) then (idx xs k).bind fun a => (E m a).bind fun v => bif !v then some false else L m (k + 1) else some c)
    (hE : ∀ a ∈ xs, Tr (fun m => E m a) (D a)) : Tr (fun m => L m 0) (alls D xs && c) := by
  have key := drop_ind xs (fun k zs => Tr (fun m => L m (k : Int)) (alls D zs && c)) ?_ ?_ 0 (Nat.zero_le _)
  · simpa using key
  · exact Tr.step (fun m => by rw [h0, ltN_self, cond_false]) (by simpa [alls] using Tr.val)
  · intro k x zs hk hx hd ih
    refine Tr.step (fun m => by rw [h0, ltN hk, cond_true, idx_nat hx, Option.bind_some, succN]) ?_
    refine Tr.bind (hE x (List.mem_of_getElem? hx)) ?_
    rw [alls]
    cases h : D x with
    | false => exact Tr.tt rfl Tr.val
    | true => exact Tr.ff rfl (by simpa using ih)
end Go.Abs
end
section
set_option linter.unusedVariables false
set_option linter.unusedSimpArgs false
namespace Go.Abs
mutual
def Hit.w : Hit → Nat
  | .mk name _ one many => 1 + name.w + one.w + Hit.ws many
def Hit.ws : List Hit → Nat
  | [] => 0
  | f :: fs => 1 + f.w + Hit.ws fs
end
theorem Hit.ws_len : ∀ (l : List Hit), l.length ≤ Hit.ws l
  | [] => by simp
  | f :: fs => by have := Hit.ws_len fs; rw [Hit.ws, List.length_cons]; omega
theorem Hit.ws_mem : ∀ {l : List Hit} {x : Hit}, x ∈ l → x.w < Hit.ws l
  | f :: fs, x, h => by
    rw [Hit.ws]
    rcases List.mem_cons.1 h with rfl | h
    · omega
    · have := Hit.ws_mem h; omega
theorem Form.w_pos (f : Form) : 1 ≤ f.w := by have := f.w_kids; omega
theorem same_len {α : Type} {a b : List α} (h : a.length ≠ b.length) : same a b = false := same_ne (fun e => h (by rw [e]))
theorem form_same (a b : Form) : same a b = (decide (a.kind = b.kind) && (decide (a.name = b.name) && (decide (a.n = b.n) && (same a.scopes b.scopes && same a.kids b.kids)))) := by
  obtain ⟨k, nm, n, sc, ki⟩ := a
  obtain ⟨k', nm', n', sc', ki'⟩ := b
  show _ = (decide (k = k') && (decide (nm = nm') && (decide (n = n') && (same sc sc' && same ki ki'))))
  rw [Bool.eq_iff_iff]
  simp only [Bool.and_eq_true, same_iff, decide_eq_true_eq, Form.mk.injEq]
theorem lenB {a b : Nat} (h : a ≠ b) : decide ((a : Int) ≠ (b : Int)) = true := decide_eq_true (by omega)
theorem lenE {a b : Nat} (h : a = b) : decide ((a : Int) ≠ (b : Int)) = false := decide_eq_false (by omega)
theorem slEqual_tr (a b : List Int) : Tr (fun m => m_slices_Equal_int m a b) (same a b) := by
  refine Tr.eq (fun m => by unfold m_slices_Equal_int; rfl) ?_
  by_cases h : a.length = b.length
  · exact Tr.ff (lenE h) (loop_eqI h (L := fun m k => m_slices_Equal_int_l1 m a b k) (fun m k => by rw [m_slices_Equal_int_l1]))
  · rw [same_len h]; exact Tr.tt (lenB h) Tr.val
theorem implFormSame_n : ∀ (n : Nat) (a b : Form), a.w ≤ n → Tr (fun m => m_impl_FormSame m a b) (same a b) := by
  intro n
  induction n with
  | zero => intro a b h; have := a.w_pos; omega
  | succ n ih =>
    intro a b h
    have hw := a.w_kids
    rw [form_same]
    refine Tr.step (fun m => by rw [m_impl_FormSame]) ?_
    cases decide (a.kind = b.kind) with
    | false => exact Tr.ff rfl Tr.val
    | true =>
    refine Tr.tt rfl ?_
    cases decide (a.name = b.name) with
    | false => exact Tr.ff rfl Tr.val
    | true =>
    refine Tr.tt rfl ?_
    cases decide (a.n = b.n) with
    | false => exact Tr.ff rfl Tr.val
    | true =>
    refine Tr.tt rfl (Tr.bind (slEqual_tr _ _) ?_)
    cases same a.scopes b.scopes with
    | false => exact Tr.ff rfl Tr.val
    | true =>
    refine Tr.tt rfl (Tr.bind (v := same a.kids b.kids) (Tr.step (fun m => by rw [m_slices_EqualFunc_Form_FormSame]) ?_) Tr.val)
    by_cases hl : a.kids.length = b.kids.length
    · exact Tr.ff (lenE hl) (loop_eq hl (L := fun m k => m_slices_EqualFunc_Form_FormSame_l1 m a.kids b.kids k) (E := fun m x y => m_impl_FormSame m x y) (fun m k => by rw [m_slices_EqualFunc_Form_FormSame_l1]) (fun x hx y _ => ih x y (by have := Form.ws_mem hx; omega)))
    · rw [same_len hl]; exact Tr.tt (lenB hl) Tr.val
theorem implFormSame_tr (a b : Form) : Tr (fun m => m_impl_FormSame m a b) (same a b) := implFormSame_n _ a b (Nat.le_refl _)
end Go.Abs
end
section
set_option linter.unusedVariables false
set_option linter.unusedSimpArgs false
namespace Go.Abs
mutual
def Form.fit : Form → Prop
  | .mk _ name _ scopes kids => name.size ≤ 9223372036854775807 ∧ scopes.length ≤ 9223372036854775807 ∧ kids.length ≤ 9223372036854775807 ∧ Form.fits kids
def Form.fits : List Form → Prop
  | [] => True
  | f :: fs => f.fit ∧ Form.fits fs
end
mutual
def Hit.fit : Hit → Prop
  | .mk name _ one many => name.fit ∧ one.fit ∧ many.length ≤ 9223372036854775807 ∧ Hit.fits many
def Hit.fits : List Hit → Prop
  | [] => True
  | f :: fs => f.fit ∧ Hit.fits fs
end
theorem Form.fits_mem : ∀ {l : List Form} {x : Form}, Form.fits l → x ∈ l → x.fit
  | f :: fs, x, h, hx => by
    rw [Form.fits] at h
    rcases List.mem_cons.1 hx with rfl | hx
    · exact h.1
    · exact Form.fits_mem h.2 hx
theorem Hit.fits_mem : ∀ {l : List Hit} {x : Hit}, Hit.fits l → x ∈ l → x.fit
  | f :: fs, x, h, hx => by
    rw [Hit.fits] at h
    rcases List.mem_cons.1 hx with rfl | hx
    · exact h.1
    · exact Hit.fits_mem h.2 hx
theorem Form.fit.parts {f : Form} (h : f.fit) : f.name.size ≤ 9223372036854775807 ∧ f.scopes.length ≤ 9223372036854775807 ∧ f.kids.length ≤ 9223372036854775807 ∧ Form.fits f.kids := by
  obtain ⟨a, b, c, d, e⟩ := f; rw [Form.fit] at h; exact h
theorem Hit.fit.parts {f : Hit} (h : f.fit) : f.name.fit ∧ f.one.fit ∧ f.many.length ≤ 9223372036854775807 ∧ Hit.fits f.many := by
  obtain ⟨a, b, c, d⟩ := f; rw [Hit.fit] at h; exact h
end Go.Abs
end
section
set_option linter.unusedVariables false
set_option linter.unusedSimpArgs false
namespace Go.Abs
def letterB (c : Int) (first : Bool) : Bool := (decide (97 ≤ c) && decide (c ≤ 122)) || (decide (c = 42) || (decide (c = 63) || (decide (c = 61) || (decide (c = 43) || (decide (c = 60) || (!first && ((decide (48 ≤ c) && decide (c ≤ 57)) || decide (c = 45))))))))
theorem l1Letter_tr (c : Int) (first : Bool) : Tr (fun m => m_spec_l1Letter m c first) (letterB c first) := by
  refine Tr.of (fun m => ?_)
  unfold m_spec_l1Letter letterB
  cases decide (97 ≤ c) <;> cases decide (c ≤ 122) <;> cases decide (c = 42) <;> cases decide (c = 63) <;> cases decide (c = 61) <;> cases decide (c = 43) <;> cases decide (c = 60) <;> cases first <;> cases decide (48 ≤ c) <;> cases decide (c ≤ 57) <;> rfl
def nmF : Nat → List UInt8 → Bool
  | _, [] => true
  | k, x :: xs => letterB (x.toNat : Int) (decide ((k : Int) = 0)) && nmF (k + 1) xs
def nmSz (s : ByteArray) : Bool := decide (1 ≤ (s.size : Int)) && decide ((s.size : Int) ≤ 12)
def nmOk (s : ByteArray) : Bool := decide (s = (⟨#[46, 46, 46]⟩ : ByteArray)) || (decide (s = (⟨#[95]⟩ : ByteArray)) || (nmF 0 s.data.toList && nmSz s))
theorem sz_list (s : ByteArray) : s.size = s.data.toList.length := by rw [ByteArray.size]; simp
theorem bidx_nat {s : ByteArray} {k : Nat} {x : UInt8} (h : s.data.toList[k]? = some x) : bidx s (k : Int) = some (x.toNat : Int) := by
  have hk : k < s.size := by rw [sz_list]; exact (List.getElem?_eq_some_iff.1 h).1
  unfold bidx
  rw [show (decide ((0 : Int) ≤ k) && decide ((k : Int) < s.size)) = true by simp; omega, cond_true]
  rw [Int.toNat_natCast, byteAt, List.getD_eq_getElem?_getD, h]; rfl
theorem bif_and (a b : Bool) : (bif a then some b else some false) = some (a && b) := by cases a <;> rfl
theorem specNm_tr (s : ByteArray) : Tr (fun m => m_spec_NameValid m s) (nmOk s) := by
  refine Tr.eq (fun m => by unfold m_spec_NameValid; rfl) ?_
  unfold nmOk
  cases decide (s = (⟨#[46, 46, 46]⟩ : ByteArray)) with
  | true => exact Tr.tt rfl Tr.val
  | false =>
  refine Tr.ff rfl ?_
  cases decide (s = (⟨#[95]⟩ : ByteArray)) with
  | true => exact Tr.tt rfl Tr.val
  | false =>
  refine Tr.ff rfl ?_
  have hs := sz_list s
  have key := drop_ind s.data.toList (fun k zs => Tr (fun m => m_spec_NameValid_l1 m s (k : Int)) (nmF k zs && nmSz s)) ?_ ?_ 0 (Nat.zero_le _)
  · simpa using key
  · refine Tr.step (fun m => by rw [m_spec_NameValid_l1, hs, ltN_self, cond_false, ← hs]) (Tr.of fun m => ?_)
    rw [bif_and]; rfl
  · intro k x zs hk hx hd ih
    refine Tr.step (fun m => by rw [m_spec_NameValid_l1, ltN (show k < s.size by omega), cond_true]) ?_
    by_cases h12 : k ≤ 12
    · refine Tr.tt (decide_eq_true (by omega)) (Tr.eq (fun m => by rw [bidx_nat hx, Option.bind_some, w64_in (by omega), succN]) ?_)
      refine Tr.bind (l1Letter_tr _ _) ?_
      rw [nmF]
      cases letterB (x.toNat : Int) (decide ((k : Int) = 0)) with
      | false => exact Tr.tt rfl Tr.val
      | true => exact Tr.ff rfl (by simpa using ih)
    · refine Tr.ff (decide_eq_false (by omega)) (Tr.of fun m => ?_)
      have : nmSz s = false := by unfold nmSz; rw [decide_eq_false (show ¬ (s.size : Int) ≤ 12 by omega), Bool.and_false]
      rw [bif_and, this, Bool.and_false]
      rw [decide_eq_false (show ¬ (s.size : Int) ≤ 12 by omega), Bool.and_false]
theorem within_tr (x lo hi : Int) : Tr (fun m => m_impl_within m x lo hi) (decide (lo ≤ x) && decide (x ≤ hi)) :=
  Tr.of (fun m => by unfold m_impl_within; rw [bif_and])
theorem star_eq (x : UInt8) : decide (0 ≤ Lib.indexByte [42, 63, 61, 43, 60] ((x.toNat : Int).toNat.toUInt8)) = (decide ((x.toNat : Int) = 42) || (decide ((x.toNat : Int) = 63) || (decide ((x.toNat : Int) = 61) || (decide ((x.toNat : Int) = 43) || decide ((x.toNat : Int) = 60))))) := by
  have hx : ((x.toNat : Int).toNat.toUInt8) = x := by rw [Int.toNat_natCast]; exact UInt8.ofNat_toNat
  rw [hx]
  show decide (0 ≤ Lib.indexByte [42, 63, 61, 43, 60] x) = _
  by_cases h1 : x = 42
  · subst h1; decide
  by_cases h2 : x = 63
  · subst h2; decide
  by_cases h3 : x = 61
  · subst h3; decide
  by_cases h4 : x = 43
  · subst h4; decide
  by_cases h5 : x = 60
  · subst h5; decide
  have ne : ∀ (y : UInt8) (z : Int), (y.toNat : Int) = z → x ≠ y → ¬ ((x.toNat : Int) = z) := fun y z hz hy e => hy (UInt8.toNat_inj.1 (by omega))
  have e : Lib.indexByte [42, 63, 61, 43, 60] x = -1 := by
    simp [Lib.indexByte, Ne.symm h1, Ne.symm h2, Ne.symm h3, Ne.symm h4, Ne.symm h5, beq_eq_false_iff_ne]
  rw [e, decide_eq_false (ne 42 42 rfl h1), decide_eq_false (ne 63 63 rfl h2), decide_eq_false (ne 61 61 rfl h3), decide_eq_false (ne 43 43 rfl h4), decide_eq_false (ne 60 60 rfl h5)]
  rfl
theorem implNm_tr (s : ByteArray) (hs : s.size ≤ 9223372036854775807) : Tr (fun m => m_impl_NameValid m s) (nmOk s) := by
  refine Tr.eq (fun m => by unfold m_impl_NameValid; rfl) ?_
  unfold nmOk
  cases decide (s = (⟨#[46, 46, 46]⟩ : ByteArray)) with
  | true => exact Tr.tt rfl Tr.val
  | false =>
  refine Tr.ff rfl ?_
  cases decide (s = (⟨#[95]⟩ : ByteArray)) with
  | true => exact Tr.tt rfl Tr.val
  | false =>
  refine Tr.ff rfl ?_
  have hsz := sz_list s
  have key := drop_ind s.data.toList (fun k zs => Tr (fun m => m_impl_NameValid_l1 m s (k : Int)) (nmF k zs && nmSz s)) ?_ ?_ 0 (Nat.zero_le _)
  · simpa using key
  · refine Tr.step (fun m => by rw [m_impl_NameValid_l1, hsz, ltN_self, cond_false, ← hsz]) ?_
    refine Tr.bind (within_tr _ _ _) Tr.val
  · intro k x zs hk hx hd ih
    refine Tr.step (fun m => by rw [m_impl_NameValid_l1, ltN (show k < s.size by omega), cond_true, bidx_nat hx, Option.bind_some, w64_in (by omega), succN]) ?_
    simp only [m_strings_IndexByte, Option.bind_some, star_eq]
    rw [nmF]
    unfold letterB
    have hp : decide (0 < (k : Int)) = !decide ((k : Int) = 0) := by
      rw [Bool.eq_iff_iff, Bool.not_eq_true', decide_eq_true_iff, decide_eq_false_iff_not]; omega
    rw [hp]
    rw [Bool.and_assoc]
    generalize hR : (nmF (k + 1) zs && nmSz s) = R at ih ⊢
    generalize decide (97 ≤ (x.toNat : Int)) = b1
    generalize decide ((x.toNat : Int) ≤ 122) = b2
    generalize decide ((x.toNat : Int) = 42) = c1
    generalize decide ((x.toNat : Int) = 63) = c2
    generalize decide ((x.toNat : Int) = 61) = c3
    generalize decide ((x.toNat : Int) = 43) = c4
    generalize decide ((x.toNat : Int) = 60) = c5
    generalize decide ((k : Int) = 0) = z
    generalize decide (48 ≤ (x.toNat : Int)) = b3
    generalize decide ((x.toNat : Int) ≤ 57) = b4
    generalize decide ((x.toNat : Int) = 45) = b5
    have hc : ∀ a b c d e w : Bool, (a || (b || (c || (d || (e || w))))) = ((a || (b || (c || (d || e)))) || w) := by decide
    rw [hc c1 c2 c3 c4 c5]
    generalize (c1 || (c2 || (c3 || (c4 || c5)))) = st
    cases b1 <;> cases b2 <;> cases st <;> cases z <;> cases b3 <;> cases b4 <;> cases b5 <;> first | exact Tr.val | exact ih
def gtP : Option Int → Int → Bool
  | none, _ => true
  | some q, x => decide (q < x)
def scF : Option Int → List Int → Bool
  | _, [] => true
  | p, x :: xs => (decide (1 ≤ x) && decide (x ≤ 99)) && (gtP p x && scF (some x) xs)
def prevAt (l : List Int) : Nat → Option Int
  | 0 => none
  | j + 1 => l[j]?
def scOk (l : List Int) : Bool := scF none l && decide ((l.length : Int) ≤ 24)
theorem prev_succ {l : List Int} {k : Nat} {x : Int} (h : l[k]? = some x) : prevAt l (k + 1) = some x := h
theorem pos_succ (k : Nat) : decide ((0 : Int) < ((k + 1 : Nat) : Int)) = true := decide_eq_true (by omega)
theorem implSc_tr (l : List Int) (hl : l.length ≤ 9223372036854775807) : Tr (fun m => m_impl_scopesOk m l) (scOk l) := by
  refine Tr.eq (fun m => by unfold m_impl_scopesOk; rfl) ?_
  have key := drop_ind l (fun k zs => Tr (fun m => m_impl_scopesOk_l1 m l (k : Int)) (scF (prevAt l k) zs && decide ((l.length : Int) ≤ 24))) ?_ ?_ 0 (Nat.zero_le _)
  · simpa [scOk, prevAt] using key
  · exact Tr.step (fun m => by rw [m_impl_scopesOk_l1, ltN_self, cond_false]; simp [scF]) Tr.val
  · intro k x zs hk hx hd ih
    rw [prev_succ hx] at ih
    refine Tr.step (fun m => by rw [m_impl_scopesOk_l1, ltN hk, cond_true, idx_nat hx, Option.bind_some, succN]) ?_
    refine Tr.bind (within_tr _ _ _) ?_
    rw [scF]
    cases (decide (1 ≤ x) && decide (x ≤ 99)) with
    | false => exact Tr.tt rfl Tr.val
    | true =>
    refine Tr.ff rfl ?_
    cases k with
    | zero => exact Tr.ff (by simp) (by simpa [prevAt, gtP] using ih)
    | succ j =>
      have hj : l[j]? = some l[j] := List.getElem?_eq_getElem (by omega)
      refine Tr.tt (pos_succ j) (Tr.eq (fun m => by rw [w64_in (by omega), show ((j + 1 : Nat) : Int) - 1 = (j : Int) by omega, idx_nat hj, Option.bind_some]) ?_)
      rw [show prevAt l (j + 1) = some l[j] from hj, gtP]
      by_cases h : x ≤ l[j]
      · rw [decide_eq_false (show ¬ l[j] < x by omega)]; exact Tr.tt (decide_eq_true h) Tr.val
      · rw [decide_eq_true (show l[j] < x by omega)]; exact Tr.ff (decide_eq_false h) (by simpa using ih)
theorem specSc_tr (l : List Int) (hl : l.length ≤ 9223372036854775807) : Tr (fun m => m_spec_l1Scopes m l) (scOk l) := by
  refine Tr.eq (fun m => by unfold m_spec_l1Scopes; rfl) ?_
  have key := drop_ind l (fun k zs => Tr (fun m => m_spec_l1Scopes_l1 m l (k : Int)) (scF (prevAt l k) zs && decide ((l.length : Int) ≤ 24))) ?_ ?_ 0 (Nat.zero_le _)
  · simpa [scOk, prevAt] using key
  · exact Tr.step (fun m => by rw [m_spec_l1Scopes_l1, ltN_self, cond_false]; simp [scF]) Tr.val
  · intro k x zs hk hx hd ih
    rw [prev_succ hx] at ih
    refine Tr.step (fun m => by rw [m_spec_l1Scopes_l1, ltN hk, cond_true]) ?_
    by_cases h24 : k ≤ 24
    case neg =>
      refine Tr.ff (decide_eq_false (by omega)) (Tr.of fun m => ?_)
      rw [decide_eq_false (show ¬ (l.length : Int) ≤ 24 by omega), Bool.and_false]
    refine Tr.tt (decide_eq_true (by omega)) (Tr.eq (fun m => by rw [idx_nat hx, Option.bind_some, Option.bind_some]) ?_)
    rw [scF]
    by_cases h1 : x < 1
    · rw [decide_eq_false (show ¬ 1 ≤ x by omega)]; exact Tr.tt (decide_eq_true h1) Tr.val
    rw [decide_eq_true (show 1 ≤ x by omega)]
    refine Tr.ff (decide_eq_false h1) ?_
    by_cases h2 : 99 < x
    · rw [decide_eq_false (show ¬ x ≤ 99 by omega)]; exact Tr.tt (decide_eq_true h2) Tr.val
    rw [decide_eq_true (show x ≤ 99 by omega)]
    refine Tr.ff (decide_eq_false h2) ?_
    cases k with
    | zero => exact Tr.ff (by simp) (Tr.eq (fun m => by rw [w64_in (by omega), succN]) (by simpa [prevAt, gtP] using ih))
    | succ j =>
      have hj : l[j]? = some l[j] := List.getElem?_eq_getElem (by omega)
      refine Tr.tt (pos_succ j) (Tr.eq (fun m => by rw [Option.bind_some, w64_in (by omega), show ((j + 1 : Nat) : Int) - 1 = (j : Int) by omega, idx_nat hj, Option.bind_some]) ?_)
      rw [show prevAt l (j + 1) = some l[j] from hj, gtP]
      by_cases h : x ≤ l[j]
      · rw [decide_eq_false (show ¬ l[j] < x by omega)]; exact Tr.tt (decide_eq_true h) Tr.val
      · rw [decide_eq_true (show l[j] < x by omega)]; exact Tr.ff (decide_eq_false h) (Tr.eq (fun m => by rw [w64_in (by omega), succN]) (by simpa using ih))
end Go.Abs
end
section
set_option linter.unusedVariables false
set_option linter.unusedSimpArgs false
namespace Go.Abs
mutual
def Form.isOk : Form → Nat → Bool
  | .mk kind name n scopes kids, d => bif decide (d = 0) then false else
    bif decide (kind = 1) then (nmOk name && (decide (n = 0) && (scOk scopes && decide ((kids.length : Int) = 0))))
    else bif decide (kind = 2) then (decide (name = (⟨#[]⟩ : ByteArray)) && ((decide (0 ≤ n) && decide (n ≤ 999)) && (decide ((scopes.length : Int) = 0) && decide ((kids.length : Int) = 0))))
    else (decide (kind = 3) && (decide (name = (⟨#[]⟩ : ByteArray)) && (decide (n = 0) && (decide ((scopes.length : Int) = 0) && Form.isOks kids (d - 1)))))
def Form.isOks : List Form → Nat → Bool
  | [], _ => true
  | f :: fs, d => f.isOk d && Form.isOks fs d
end
mutual
def Form.cnt : Form → Nat
  | .mk _ _ _ _ kids => 1 + Form.cnts kids
def Form.cnts : List Form → Nat
  | [] => 0
  | f :: fs => f.cnt + Form.cnts fs
end
theorem Form.isOks_eq (d : Nat) : ∀ l : List Form, Form.isOks l d = alls (fun x => x.isOk d) l
  | [] => rfl
  | f :: fs => by rw [Form.isOks, alls, Form.isOks_eq d fs]
theorem Form.isOk_eq (f : Form) (d : Nat) : f.isOk d = bif decide (d = 0) then false else
    bif decide (f.kind = 1) then (nmOk f.name && (decide (f.n = 0) && (scOk f.scopes && decide ((f.kids.length : Int) = 0))))
    else bif decide (f.kind = 2) then (decide (f.name = (⟨#[]⟩ : ByteArray)) && ((decide (0 ≤ f.n) && decide (f.n ≤ 999)) && (decide ((f.scopes.length : Int) = 0) && decide ((f.kids.length : Int) = 0))))
    else (decide (f.kind = 3) && (decide (f.name = (⟨#[]⟩ : ByteArray)) && (decide (f.n = 0) && (decide ((f.scopes.length : Int) = 0) && alls (fun x => x.isOk (d - 1)) f.kids)))) := by
  obtain ⟨a, b, c, e, g⟩ := f; rw [Form.isOk, Form.isOks_eq]; rfl
theorem Form.cnt_eq (f : Form) : f.cnt = 1 + Form.cnts f.kids := by obtain ⟨a, b, c, e, g⟩ := f; rw [Form.cnt]; rfl
mutual
theorem Form.cnt_w : ∀ f : Form, f.cnt ≤ f.w
  | .mk a b c d e => by have := Form.cnts_ws e; rw [Form.cnt, Form.w]; omega
theorem Form.cnts_ws : ∀ l : List Form, Form.cnts l ≤ Form.ws l
  | [] => by simp [Form.cnts]
  | f :: fs => by have := Form.cnt_w f; have := Form.cnts_ws fs; rw [Form.cnts, Form.ws]; omega
end
def Form.valid (f : Form) : Bool := f.isOk 40 && decide (f.cnt ≤ 400)
theorem l1Is_n : ∀ (n : Nat) (f : Form) (d : Nat), f.w ≤ n → f.fit → d ≤ 40 → Tr (fun m => m_spec_l1Is m f (d : Int)) (f.isOk d) := by
  intro n
  induction n with
  | zero => intro a d h; have := a.w_pos; omega
  | succ n ih =>
    intro f d h hf hd
    obtain ⟨f1, f2, f3, f4⟩ := hf.parts
    have hw := f.w_kids
    rw [Form.isOk_eq]
    refine Tr.step (fun m => by rw [m_spec_l1Is]) ?_
    cases hd0 : decide (d = 0) with
    | true => exact Tr.tt (decide_eq_true (by simpa using hd0)) Tr.val
    | false =>
    have hd1 : d ≠ 0 := by simpa using hd0
    refine Tr.ff (decide_eq_false (by omega)) ?_
    rw [cond_false]
    cases decide (f.kind = 1) with
    | true =>
      refine Tr.tt rfl (Tr.bind (specNm_tr _) ?_)
      rw [cond_true]
      cases nmOk f.name with
      | false => exact Tr.ff rfl Tr.val
      | true =>
      refine Tr.tt rfl ?_
      cases decide (f.n = 0) with
      | false => exact Tr.ff rfl Tr.val
      | true =>
      refine Tr.tt rfl (Tr.bind (specSc_tr _ f2) ?_)
      cases scOk f.scopes with
      | false => exact Tr.ff rfl Tr.val
      | true => exact Tr.tt rfl Tr.val
    | false =>
    refine Tr.ff rfl ?_
    rw [cond_false]
    cases decide (f.kind = 2) with
    | true =>
      refine Tr.tt rfl (Tr.of fun m => ?_)
      rw [cond_true]
      cases decide (f.name = (⟨#[]⟩ : ByteArray)) <;> cases decide (0 ≤ f.n) <;> cases decide (f.n ≤ 999) <;> cases decide ((f.scopes.length : Int) = 0) <;> rfl
    | false =>
    refine Tr.ff rfl ?_
    rw [cond_false]
    by_cases h3 : f.kind = 3
    case neg => rw [decide_eq_false h3]; exact Tr.tt (by simpa using h3) Tr.val
    rw [decide_eq_true h3]
    refine Tr.ff (by simpa using h3) ?_
    by_cases h4 : f.name = (⟨#[]⟩ : ByteArray)
    case neg => rw [decide_eq_false h4]; exact Tr.tt (by simpa using h4) Tr.val
    rw [decide_eq_true h4]
    refine Tr.ff (by simpa using h4) ?_
    by_cases h5 : f.n = 0
    case neg => rw [decide_eq_false h5]; exact Tr.tt (by simpa using h5) Tr.val
    rw [decide_eq_true h5]
    refine Tr.ff (by simpa using h5) ?_
    by_cases h6 : (f.scopes.length : Int) = 0
    case neg => rw [decide_eq_false h6]; exact Tr.tt (by rw [decide_eq_true_eq]; exact h6) Tr.val
    rw [decide_eq_true h6]
    refine Tr.ff (by rw [decide_eq_false_iff_not]; exact fun h => h h6) ?_
    have e : ((d : Int) - 1) = ((d - 1 : Nat) : Int) := by omega
    have := loop_all (xs := f.kids) (c := true) (D := fun x => x.isOk (d - 1)) (L := fun m k => m_spec_l1Is_l1 m f (d : Int) k) (E := fun m x => m_spec_l1Is m x (w64 ((d : Int) - 1))) (fun m k => by rw [m_spec_l1Is_l1]) (fun x hx => by
      rw [w64_in (by omega), e]; exact ih x (d - 1) (by have := Form.ws_mem hx; omega) (Form.fits_mem f4 hx) (by omega))
    simpa using this
theorem l1Count_n : ∀ (n : Nat) (f : Form), f.w ≤ n → f.w ≤ 2 ^ 36 → Tr (fun m => m_spec_l1Count m f) (f.cnt : Int) := by
  intro n
  induction n with
  | zero => intro a h; have := a.w_pos; omega
  | succ n ih =>
    intro f h hb
    have hw := f.w_kids
    have hc := Form.cnts_ws f.kids
    refine Tr.step (fun m => by rw [m_spec_l1Count]) ?_
    have key := drop_ind f.kids (fun k zs => ∀ g : Nat, g + Form.ws zs ≤ 2 ^ 37 → Tr (fun m => m_spec_l1Count_l1 m f (g : Int) (k : Int)) ((g + Form.cnts zs : Nat) : Int)) ?_ ?_ 0 (Nat.zero_le _) 1 (by simp; omega)
    · rw [Form.cnt_eq]; simpa using key
    · intro g hg
      exact Tr.step (fun m => by rw [m_spec_l1Count_l1, ltN_self, cond_false]; simp [Form.cnts]) Tr.val
    · intro k x zs hk hx hd ihk g hg
      have hm := List.mem_of_getElem? hx
      have hxw := Form.ws_mem hm
      have hcx := Form.cnt_w x
      rw [Form.ws] at hg
      refine Tr.step (fun m => by rw [m_spec_l1Count_l1, ltN hk, cond_true, idx_nat hx, Option.bind_some, succN]) ?_
      refine Tr.bind (ih x (by omega) (by omega)) ?_
      refine Tr.eq (fun m => by rw [w64_in (by omega), show (g : Int) + (x.cnt : Int) = ((g + x.cnt : Nat) : Int) by omega]) ?_
      rw [Form.cnts, ← Nat.add_assoc]
      exact ihk _ (by omega)
theorem specFormValid_tr (f : Form) (hf : f.fit) (hb : f.w ≤ 2 ^ 36) : Tr (fun m => m_spec_FormValid m f) f.valid := by
  refine Tr.eq (fun m => by unfold m_spec_FormValid; rfl) (Tr.bind (l1Is_n _ f 40 (Nat.le_refl _) hf (by omega)) ?_)
  unfold Form.valid
  cases f.isOk 40 with
  | false => exact Tr.ff rfl Tr.val
  | true =>
    refine Tr.tt rfl (Tr.bind (l1Count_n _ f (Nat.le_refl _) hb) (Tr.of fun m => ?_))
    rw [Bool.true_and]; congr 1
    rw [Bool.eq_iff_iff, decide_eq_true_iff, decide_eq_true_iff]; omega
theorem formOk_n : ∀ (n : Nat) (f : Form) (d : Nat) (g : Int), f.w ≤ n → f.fit → 1 ≤ d → d ≤ 41 → 0 ≤ g → g ≤ 400 → TQ (fun m => m_impl_formOk m f (d : Int) g) (fun r => r.1 = (f.isOk (41 - d) && decide ((f.cnt : Int) ≤ g)) ∧ (r.1 = true → r.2 = g - f.cnt)) := by
  intro n
  induction n with
  | zero => intro a d g h; have := a.w_pos; omega
  | succ n ih =>
    intro f d g h hf hd hd' hg hg'
    obtain ⟨f1, f2, f3, f4⟩ := hf.parts
    have hw := f.w_kids
    have hcn := f.cnt_eq
    rw [Form.isOk_eq]
    refine TQ.step (fun m => by rw [m_impl_formOk, w64_in (by omega)]) ?_
    by_cases hg0 : g - 1 < 0
    · refine TQ.eq (fun m => by rw [decide_eq_true hg0, cond_true]) (TQ.val ⟨?_, fun h => by cases h⟩)
      rw [decide_eq_false (show ¬ (f.cnt : Int) ≤ g by omega), Bool.and_false]
    refine TQ.eq (fun m => by rw [decide_eq_false hg0, cond_false]) ?_
    by_cases hd0 : 40 < (d : Int)
    · refine TQ.eq (fun m => by rw [decide_eq_true hd0, cond_true]) (TQ.val ⟨?_, fun h => by cases h⟩)
      rw [decide_eq_true (show 41 - d = 0 by omega), cond_true, Bool.false_and]
    refine TQ.eq (fun m => by rw [decide_eq_false hd0, cond_false]) ?_
    rw [decide_eq_false (show ¬ 41 - d = 0 by omega), cond_false]
    have leaf : ∀ (b : Bool), ((b && decide ((f.kids.length : Int) = 0)) = true → True) := fun _ _ => trivial
    have cnt1 : (f.kids.length : Int) = 0 → (f.cnt : Int) = 1 := fun h => by
      have : f.kids = [] := List.eq_nil_of_length_eq_zero (by omega)
      rw [hcn, this, Form.cnts]; rfl
    have fin : TQ (fun _ => some ((decide ((f.kids.length : Int) = 0)), g - 1)) (fun r => r.1 = (decide ((f.kids.length : Int) = 0) && decide ((f.cnt : Int) ≤ g)) ∧ (r.1 = true → r.2 = g - f.cnt)) := by
      refine TQ.val ⟨?_, fun h => by have := cnt1 (by simpa using h); omega⟩
      by_cases hk : (f.kids.length : Int) = 0
      · have := cnt1 hk
        rw [decide_eq_true hk, decide_eq_true (show (f.cnt : Int) ≤ g by omega)]; rfl
      · rw [decide_eq_false hk]; rfl
    have no : TQ (fun _ => some (false, g - 1)) (fun r => r.1 = (false && decide ((f.cnt : Int) ≤ g)) ∧ (r.1 = true → r.2 = g - f.cnt)) := TQ.val ⟨rfl, fun h => by cases h⟩
    cases decide (f.kind = 1) with
    | true =>
      refine TQ.eq (fun m => by rw [cond_true]) (TQ.ev (implNm_tr _ f1) ?_)
      rw [cond_true]
      cases nmOk f.name with
      | false => exact no
      | true =>
      refine TQ.eq (fun m => by rw [cond_true]) ?_
      cases decide (f.n = 0) with
      | false => exact no
      | true =>
      refine TQ.eq (fun m => by rw [cond_true]) (TQ.ev (implSc_tr _ f2) ?_)
      cases scOk f.scopes with
      | false => exact no
      | true => exact fin
    | false =>
    refine TQ.eq (fun m => by rw [cond_false]) ?_
    rw [cond_false]
    cases decide (f.kind = 2) with
    | true =>
      refine TQ.eq (fun m => by rw [cond_true]) ?_
      rw [cond_true]
      cases decide (f.name = (⟨#[]⟩ : ByteArray)) with
      | false => exact no
      | true =>
      refine TQ.eq (fun m => by rw [cond_true]) (TQ.ev (within_tr _ _ _) ?_)
      cases (decide (0 ≤ f.n) && decide (f.n ≤ 999)) with
      | false => exact no
      | true =>
      refine TQ.eq (fun m => by rw [cond_true]) ?_
      cases decide ((f.scopes.length : Int) = 0) with
      | false => exact no
      | true => exact fin
    | false =>
    refine TQ.eq (fun m => by rw [cond_false]) ?_
    rw [cond_false]
    cases decide (f.kind = 3) with
    | false => exact no
    | true =>
    refine TQ.eq (fun m => by rw [cond_true]) ?_
    by_cases h4 : f.name = (⟨#[]⟩ : ByteArray)
    case neg => rw [decide_eq_false h4]; exact TQ.eq (fun m => by rw [decide_eq_true h4, cond_true]) no
    rw [decide_eq_true h4]
    refine TQ.eq (fun m => by rw [decide_eq_false (fun h => h h4), cond_false]) ?_
    by_cases h5 : f.n = 0
    case neg => rw [decide_eq_false h5]; exact TQ.eq (fun m => by rw [decide_eq_true h5, cond_true]) no
    rw [decide_eq_true h5]
    refine TQ.eq (fun m => by rw [decide_eq_false (fun h => h h5), cond_false]) ?_
    by_cases h6 : (f.scopes.length : Int) = 0
    case neg => rw [decide_eq_false h6]; exact TQ.eq (fun m => by rw [decide_eq_true (show 0 < (f.scopes.length : Int) by omega), cond_true]) no
    rw [decide_eq_true h6]
    refine TQ.eq (fun m => by rw [decide_eq_false (show ¬ 0 < (f.scopes.length : Int) by omega), cond_false]) ?_
    have key := drop_ind f.kids (fun k zs => ∀ g : Int, 0 ≤ g → g ≤ 400 → TQ (fun m => m_impl_formOk_l1 m f (d : Int) (k : Int) g) (fun r => r.1 = (alls (fun x => x.isOk (41 - d - 1)) zs && decide ((Form.cnts zs : Int) ≤ g)) ∧ (r.1 = true → r.2 = g - Form.cnts zs))) ?_ ?_ 0 (Nat.zero_le _) (g - 1) (by omega) (by omega)
    · refine TQ.mono (by simpa using key) (fun r hr => ⟨?_, fun h => by have := hr.2 h; omega⟩)
      rw [hr.1]
      simp only [Bool.true_and]
      congr 1
      rw [Bool.eq_iff_iff, decide_eq_true_iff, decide_eq_true_iff]; omega
    · intro g hg _
      exact TQ.step (fun m => by rw [m_impl_formOk_l1, ltN_self, cond_false]) (TQ.val ⟨by simp [alls, Form.cnts, hg], fun _ => by simp [Form.cnts]⟩)
    · intro k x zs hk hx hdr ihk g hg hg'
      have hm := List.mem_of_getElem? hx
      refine TQ.step (fun m => by rw [m_impl_formOk_l1, ltN hk, cond_true, idx_nat hx, Option.bind_some, succN, w64_in (by omega), succN]) ?_
      refine TQ.bind (ih x (d + 1) g (by have := Form.ws_mem hm; omega) (Form.fits_mem f4 hm) (by omega) (by omega) hg hg') (fun r hr => ?_)
      obtain ⟨h1, h2⟩ := hr
      have e : 41 - (d + 1) = 41 - d - 1 := by omega
      rw [e] at h1
      refine TQ.cond (fun hb => ?_) (fun hb => ?_)
      · refine TQ.val ⟨?_, fun h => by cases h⟩
        replace hb : r.1 = false := by simpa using hb
        rw [hb] at h1
        rw [alls, Form.cnts]
        cases hx : x.isOk (41 - d - 1) with
        | false => rfl
        | true =>
          rw [hx, Bool.true_and] at h1
          have : ¬ (x.cnt : Int) ≤ g := of_decide_eq_false h1.symm
          rw [decide_eq_false (show ¬ ((x.cnt + Form.cnts zs : Nat) : Int) ≤ g by omega), Bool.and_false]
      · replace hb : r.1 = true := by simpa using hb
        have h3 := h2 hb
        rw [hb] at h1
        have h4 := (Bool.and_eq_true _ _ ▸ h1.symm : _ ∧ _)
        have h5 : (x.cnt : Int) ≤ g := of_decide_eq_true h4.2
        refine TQ.mono (ihk r.2 (by omega) (by omega)) (fun q hq => ⟨?_, fun h => by have := hq.2 h; rw [Form.cnts]; omega⟩)
        rw [hq.1, alls, Form.cnts, h4.1, Bool.true_and]
        congr 1
        rw [Bool.eq_iff_iff, decide_eq_true_iff, decide_eq_true_iff]; omega
theorem implFormValid_tr (f : Form) (hf : f.fit) : Tr (fun m => m_impl_FormValid m f) f.valid := by
  obtain ⟨r, h1, h2, _⟩ := formOk_n _ f 1 400 (Nat.le_refl _) hf (by omega) (by omega) (by omega) (by omega)
  refine Tr.eq (fun m => by unfold m_impl_FormValid; rfl) (Tr.bind h1 (Tr.of fun m => ?_))
  rw [h2]; unfold Form.valid; congr 2
  rw [Bool.eq_iff_iff, decide_eq_true_iff, decide_eq_true_iff]; omega
end Go.Abs
end
section
set_option linter.unusedVariables false
set_option linter.unusedSimpArgs false
namespace Go.Abs
abbrev dotsN : ByteArray := (⟨#[46, 46, 46]⟩ : ByteArray)
abbrev underN : ByteArray := (⟨#[95]⟩ : ByteArray)
abbrev form0 : Form := Form.mk 0 (⟨#[]⟩ : ByteArray) 0 ([] : List Int) ([] : List Form)
def isNm (f : Form) : Bool := decide (f.kind = 1) && f.valid
mutual
noncomputable def Hit.isOk : Hit → Bool
  | .mk name depth one many => isNm name && (!decide (name.name = dotsN) && (!decide (name.name = underN) && ((decide (0 ≤ depth) && decide (depth ≤ 3)) &&
      bif decide (depth = 0) then (one.valid && decide ((many.length : Int) = 0)) else (same one form0 && (decide ((many.length : Int) ≤ 400) && Hit.isOks many name (depth - 1))))))
noncomputable def Hit.isOks : List Hit → Form → Int → Bool
  | [], _, _ => true
  | x :: xs, nm, d => (same x.name nm && (decide (x.depth = d) && x.isOk)) && Hit.isOks xs nm d
end
theorem Hit.isOks_eq (nm : Form) (d : Int) : ∀ l : List Hit, Hit.isOks l nm d = alls (fun x => same x.name nm && (decide (x.depth = d) && x.isOk)) l
  | [] => by rw [Hit.isOks, alls]
  | x :: xs => by rw [Hit.isOks, alls, Hit.isOks_eq nm d xs]
theorem Hit.isOk_eq (h : Hit) : h.isOk = (isNm h.name && (!decide (h.name.name = dotsN) && (!decide (h.name.name = underN) && ((decide (0 ≤ h.depth) && decide (h.depth ≤ 3)) &&
      bif decide (h.depth = 0) then (h.one.valid && decide ((h.many.length : Int) = 0)) else (same h.one form0 && (decide ((h.many.length : Int) ≤ 400) && alls (fun x => same x.name h.name && (decide (x.depth = h.depth - 1) && x.isOk)) h.many)))))) := by
  obtain ⟨a, b, c, d⟩ := h; rw [Hit.isOk, Hit.isOks_eq]; rfl
end Go.Abs
end
section
set_option linter.unusedVariables false
set_option linter.unusedSimpArgs false
namespace Go.Abs
def isDots (f : Form) : Bool := decide (f.kind = 1) && decide (f.name = dotsN)
noncomputable def depF : List (Form × Int) → Form → Int
  | [], _ => -1
  | p :: ps, f => bif same p.1 f then p.2 else depF ps f
noncomputable def dep (l : List (Form × Int)) (f : Form) : Int := bif decide (f.kind ≠ 1) then -1 else depF l f
def nd (l : List Hit) : List (Form × Int) := l.map fun h => (h.name, h.depth)
end Go.Abs
end
section
set_option linter.unusedVariables false
set_option linter.unusedSimpArgs false
namespace Go.Abs
def lessI (k : Nat) (d : Int) : Int := bif decide (0 < d) then (bif decide ((k : Int) < d) then d - k else 0) else d
theorem lessI_succ (k : Nat) (d : Int) : lessI (k + 1) d = bif decide (0 < lessI k d) then lessI k d - 1 else lessI k d := by
  unfold lessI
  by_cases h : 0 < d
  · rw [decide_eq_true h, cond_true, cond_true]
    by_cases h2 : (k : Int) < d
    · rw [decide_eq_true h2, cond_true, decide_eq_true (show 0 < d - (k : Int) by omega), cond_true]
      by_cases h3 : ((k + 1 : Nat) : Int) < d
      · rw [decide_eq_true h3, cond_true]; omega
      · rw [decide_eq_false h3, cond_false]; omega
    · rw [decide_eq_false h2, cond_false, decide_eq_false (show ¬ ((k + 1 : Nat) : Int) < d by omega), cond_false]; rfl
  · rw [decide_eq_false h, cond_false, cond_false, decide_eq_false h, cond_false]
theorem lessI_zero (d : Int) : lessI 0 d = d := by
  unfold lessI
  by_cases h : 0 < d
  · rw [decide_eq_true h, cond_true, decide_eq_true (show ((0 : Nat) : Int) < d by omega), cond_true]; omega
  · rw [decide_eq_false h, cond_false]
def rowOf (h : Hit) : Hit := Hit.mk h.name (bif decide (0 < h.depth) then h.depth - 1 else h.depth) h.one ([] : List Hit)
theorem depF_row (f : Form) : ∀ l : List Hit, depF (nd (l.map rowOf)) f = bif decide (0 < depF (nd l) f) then depF (nd l) f - 1 else depF (nd l) f
  | [] => rfl
  | h :: hs => by
    have ih := depF_row f hs
    simp only [nd, List.map_cons, List.map_map] at ih ⊢
    rw [depF, depF]
    show (bif same h.name f then _ else _) = _
    simp only
    cases same h.name f with
    | true => rfl
    | false => simp only [cond_false]; exact ih
theorem dep_row (f : Form) (l : List Hit) : dep (nd (l.map rowOf)) f = bif decide (0 < dep (nd l) f) then dep (nd l) f - 1 else dep (nd l) f := by
  unfold dep
  cases decide (f.kind ≠ 1) with
  | true => rfl
  | false => simp only [cond_false]; exact depF_row f l
structure RowK (k : Nat) (l' l : List Hit) : Prop where
  dep : ∀ f, Abs.dep (nd l') f = lessI k (Abs.dep (nd l) f)
  len : l'.length = l.length
  fit : ∀ h ∈ l', -9223372036854775808 ≤ h.depth ∧ h.depth ≤ 9223372036854775807
theorem RowK.zero {l : List Hit} (h : ∀ h ∈ l, -9223372036854775808 ≤ h.depth ∧ h.depth ≤ 9223372036854775807) : RowK 0 l l := ⟨fun f => (lessI_zero _).symm, rfl, h⟩
theorem RowK.succ {k : Nat} {l' l : List Hit} (h : RowK k l' l) : RowK (k + 1) (l'.map rowOf) l := by
  refine ⟨fun f => by rw [dep_row, h.dep f, lessI_succ], by rw [List.length_map, h.len], fun y hy => ?_⟩
  obtain ⟨x, hx, rfl⟩ := List.mem_map.1 hy
  obtain ⟨h1, h2⟩ := h.fit x hx
  show -9223372036854775808 ≤ (bif decide (0 < x.depth) then x.depth - 1 else x.depth) ∧ (bif decide (0 < x.depth) then x.depth - 1 else x.depth) ≤ 9223372036854775807
  by_cases h0 : 0 < x.depth
  · rw [decide_eq_true h0, cond_true]; omega
  · rw [decide_eq_false h0, cond_false]; exact ⟨h1, h2⟩
end Go.Abs
end
section
set_option linter.unusedVariables false
set_option linter.unusedSimpArgs false
namespace Go.Abs
end Go.Abs
end
section
set_option linter.unusedVariables false
set_option linter.unusedSimpArgs false
namespace Go.Abs
def cntD : List Form → Nat
  | [] => 0
  | x :: xs => (bif isDots x then 1 else 0) + cntD xs
mutual
def Form.shp : Form → Bool
  | .mk k nm n sc kids => !isDots (.mk k nm n sc kids) && (Form.kP true kids && decide (cntD kids ≤ 1))
def Form.kP : Bool → List Form → Bool
  | _, [] => true
  | pd, x :: xs => (bif isDots x then !pd else x.shp) && Form.kP (isDots x) xs
end
theorem Form.shp_eq (f : Form) : f.shp = (!isDots f && (Form.kP true f.kids && decide (cntD f.kids ≤ 1))) := by obtain ⟨a, b, c, d, e⟩ := f; rw [Form.shp]; rfl
end Go.Abs
end
section
set_option linter.unusedVariables false
set_option linter.unusedSimpArgs false
namespace Go.Abs
end Go.Abs
end
section
set_option linter.unusedVariables false
set_option linter.unusedSimpArgs false
namespace Go.Abs
end Go.Abs
end
end
section
set_option linter.unusedVariables false
set_option linter.unusedSimpArgs false
namespace Go.Abs
theorem byte_mem {r : l15Rd} {K : Int} (h : OkRd r K) {x : Int} (hx : x ∈ r.b) : 0 ≤ x ∧ x < 256 := h.byte x hx
theorem tmod_lt {a b : Int} (ha : 0 ≤ a) (hb : 0 < b) : 0 ≤ a.tmod b ∧ a.tmod b < b := by
  rw [Int.tmod_eq_emod_of_nonneg ha]
  exact ⟨Int.emod_nonneg _ (by omega), Int.emod_lt_of_pos _ hb⟩
theorem pick_tq (o : l15Rd) (n : Int) (K : Int) (h : OkRd o K) (hK : K ≤ 1000000000000) : TQ (fun m => m_spec_l15Rd_pick m o n) (fun r => OkRd r.2 (K + 1) ∧ r.2.b = o.b ∧ (0 < n → 0 ≤ r.1 ∧ r.1 < n) ∧ (n ≤ 0 → r.1 = 0)) := by
  have h0 := h.lo
  have h1 := h.hi
  have e1 : w64 (o.p + 1) = o.p + 1 := w64_in (by omega)
  have e2 : w64 (o.p + 1 - 1) = o.p := by rw [w64_in (by omega)]; omega
  have hok : OkRd (l15Rd.mk o.b (o.p + 1)) (K + 1) := ⟨h.len, h.byte, by simp only; omega, by simp only; omega⟩
  refine TQ.eq (fun m => by unfold m_spec_l15Rd_pick; rw [e1, e2]) ?_
  refine TQ.cond (fun hc => TQ.val ⟨hok, rfl, fun hn => ?_, fun _ => rfl⟩) (fun hc => ?_)
  · simp at hc; omega
  have hn : 0 < n := by simp at hc; omega
  refine TQ.cond (fun hc2 => TQ.val ⟨hok, rfl, fun _ => ⟨Int.le_refl _, hn⟩, fun _ => rfl⟩) (fun hc2 => ?_)
  have hlen : 0 < o.b.length := by simp at hc2; exact List.length_pos_iff.2 hc2
  have hlen2 := h.len
  refine TQ.cond (fun hc3 => ?_) (fun hc3 => ?_)
  · refine TQ.idx h0 (by simpa using hc3) (fun x hx => ?_)
    obtain ⟨b0, b1⟩ := byte_mem h hx
    refine TQ.chk (by simp; omega) (TQ.val ⟨hok, rfl, fun _ => ?_, fun hh => absurd hn (by omega)⟩)
    rw [w64_in (by omega)]
    exact tmod_lt b0 hn
  · refine TQ.chk (by simp; exact List.length_pos_iff.1 hlen) ?_
    obtain ⟨i0, i1⟩ := tmod_lt h0 (show (0 : Int) < o.b.length by omega)
    refine TQ.idx i0 i1 (fun x hx => ?_)
    obtain ⟨b0, b1⟩ := byte_mem h hx
    refine TQ.chk (by simp; exact List.length_pos_iff.1 hlen) ?_
    have e3 : w64 (w64 (o.p * 7) + 3) = o.p * 7 + 3 := by rw [w64_in (n := o.p * 7) (by omega), w64_in (by omega)]
    rw [e3]
    obtain ⟨j0, j1⟩ := tmod_lt (show (0 : Int) ≤ o.p * 7 + 3 by omega) (show (0 : Int) < o.b.length by omega)
    refine TQ.idx j0 j1 (fun y hy => ?_)
    obtain ⟨c0, c1⟩ := byte_mem h hy
    refine TQ.chk (by simp; exact List.length_pos_iff.1 hlen) ?_
    refine TQ.chk (by simp; omega) (TQ.val ⟨hok, rfl, fun _ => ?_, fun hh => absurd hn (by omega)⟩)
    have q1 : 0 ≤ o.p.tdiv o.b.length ∧ o.p.tdiv o.b.length ≤ o.p := by
      rw [Int.tdiv_eq_ediv_of_nonneg h0]
      exact ⟨Int.ediv_nonneg h0 (by omega), Int.ediv_le_self _ h0⟩
    have e4 : w64 (w64 (w64 (w64 (w64 x * 131) + w64 (w64 y * 1117)) + w64 (o.p * 29)) + w64 (w64 (o.p.tdiv o.b.length) * 53)) = x * 131 + y * 1117 + o.p * 29 + o.p.tdiv o.b.length * 53 := by
      rw [w64_in (n := x) (by omega), w64_in (n := y) (by omega), w64_in (n := x * 131) (by omega), w64_in (n := y * 1117) (by omega), w64_in (n := x * 131 + y * 1117) (by omega), w64_in (n := o.p * 29) (by omega), w64_in (n := o.p.tdiv o.b.length) (by omega), w64_in (n := o.p.tdiv o.b.length * 53) (by omega), w64_in (n := x * 131 + y * 1117 + o.p * 29) (by omega), w64_in (by omega)]
    rw [e4]
    have hx0 : 0 ≤ x * 131 + y * 1117 + o.p * 29 + o.p.tdiv o.b.length * 53 := by omega
    have hx1 : x * 131 + y * 1117 + o.p * 29 + o.p.tdiv o.b.length * 53 < 2 ^ 60 := by omega
    generalize x * 131 + y * 1117 + o.p * 29 + o.p.tdiv o.b.length * 53 = z at hx0 hx1
    have hz : 0 ≤ z.tdiv 64 ∧ z.tdiv 64 ≤ z := by
      rw [Int.tdiv_eq_ediv_of_nonneg hx0]
      exact ⟨by omega, by omega⟩
    rw [w64_in (n := z.tdiv 64) (by omega)]
    exact tmod_lt (xor_nonneg hx0 (by omega) hz.1 (by omega)) hn
theorem num_tq (o : l15Rd) (l : List Int) (K : Int) (h : OkRd o K) (hK : K ≤ 1000000000000) (hl : 0 < l.length) : TQ (fun m => m_spec_l15Rd_num m o l) (fun r => OkRd r.2 (K + 1) ∧ r.1 ∈ l) := by
  refine TQ.eq (fun m => by unfold m_spec_l15Rd_num; rfl) ?_
  refine TQ.bind (pick_tq o _ K h hK) (fun v hv => ?_)
  obtain ⟨h1, _, h2, _⟩ := hv
  obtain ⟨h2, h3⟩ := h2 (by omega)
  exact TQ.idx h2 h3 (fun x hx => TQ.val ⟨h1, hx⟩)
theorem of_tq (o : l15Rd) (l : List ByteArray) (K : Int) (h : OkRd o K) (hK : K ≤ 1000000000000) (hl : 0 < l.length) : TQ (fun m => m_spec_l15Rd_of m o l) (fun r => OkRd r.2 (K + 1) ∧ r.1 ∈ l) := by
  refine TQ.eq (fun m => by unfold m_spec_l15Rd_of; rfl) ?_
  refine TQ.bind (pick_tq o _ K h hK) (fun v hv => ?_)
  obtain ⟨h1, _, h2, _⟩ := hv
  obtain ⟨h2, h3⟩ := h2 (by omega)
  exact TQ.idx h2 h3 (fun x hx => TQ.val ⟨h1, hx⟩)
theorem open_tq (code : List Int) (h : ∀ x ∈ code, 0 ≤ x ∧ x < 256) : TQ (fun m => m_spec_l15Open m code) (fun r => OkRd r 0) := by
  refine TQ.eq (fun m => by unfold m_spec_l15Open; rfl) ?_
  refine TQ.cond (fun hc => ?_) (fun hc => ?_)
  · have hlt : 2000 < code.length := by simp at hc; omega
    have e : sub code 0 2000 = some (code.take 2000) := by
      unfold sub
      have : (2000 : Int) ≤ code.length := by omega
      simp [this]
    refine ⟨_, Tr.eq (fun m => by rw [e]; rfl) Tr.val, ⟨?_, ?_, ?_, ?_⟩⟩
    · simp [List.length_take]; omega
    · intro x hx; exact h x (List.mem_of_mem_take hx)
    · simp
    · simp
  · refine TQ.val ⟨?_, h, ?_, ?_⟩
    · simp at hc; simp; omega
    · simp
    · simp
end Go.Abs
end
section
set_option linter.unusedVariables false
set_option linter.unusedSimpArgs false
namespace Go.Abs
theorem l1Copy_tr : ∀ (n : Nat) (f : Form), f.w ≤ n → f.w ≤ 2 ^ 36 → Tr (fun m => m_spec_l1Copy m f) f := by
  intro n
  induction n with
  | zero => intro f h _; have := f.w_kids; omega
  | succ n ih =>
    intro f h hb
    have hw := f.w_kids
    have hl := Form.ws_len f.kids
    refine Tr.step (fun m => by rw [m_spec_l1Copy]) ?_
    refine Tr.chk (by simp; omega) ?_
    have key := drop_ind f.kids (fun k ys => ∀ acc : List Form, acc.length = k → Tr (fun m => m_spec_l1Copy_l1 m f (k : Int) acc) (Form.mk f.kind f.name f.n f.scopes (acc ++ ys))) ?_ ?_ 0 (Nat.zero_le _) [] rfl
    · rw [List.drop_zero, List.nil_append] at key
      obtain ⟨a, b, c, d, e⟩ := f
      exact key
    · intro acc _
      refine Tr.step (fun m => by rw [m_spec_l1Copy_l1, ltN_self]) ?_
      rw [List.append_nil]; exact Tr.val
    · intro k x xs hk hx hd ihk acc hacc
      have hmem : x ∈ f.kids := List.mem_of_getElem? hx
      have hxw := Form.ws_mem hmem
      refine Tr.step (fun m => by rw [m_spec_l1Copy_l1, ltN hk, idx_nat hx, succN]) ?_
      refine Tr.bind (ih x (by omega) (by omega)) ?_
      refine Tr.chk (by simp; omega) ?_
      have := ihk (acc ++ [x]) (by simp; exact hacc)
      rwa [List.append_assoc] at this
theorem Form.ws_set : ∀ (l : List Form) (i : Nat) (x : Form) (B : Nat), (∀ y, l[i]? = some y → x.w ≤ y.w + B) → Form.ws (l.set i x) ≤ Form.ws l + B
  | [], i, x, B, _ => by simp [Form.ws]
  | y :: l, 0, x, B, h => by
    have := h y rfl
    rw [List.set_cons_zero, Form.ws, Form.ws]; omega
  | y :: l, i + 1, x, B, h => by
    have := Form.ws_set l i x B (fun z hz => h z (by simpa using hz))
    rw [List.set_cons_succ, Form.ws, Form.ws]; omega
theorem Form.fits_set : ∀ (l : List Form) (i : Nat) (x : Form), Form.fits l → x.fit → Form.fits (l.set i x)
  | [], i, x, h, _ => by simpa using h
  | y :: l, 0, x, h, hx => by
    rw [Form.fits] at h; rw [List.set_cons_zero, Form.fits]; exact ⟨hx, h.2⟩
  | y :: l, i + 1, x, h, hx => by
    rw [Form.fits] at h; rw [List.set_cons_succ, Form.fits]; exact ⟨h.1, Form.fits_set l i x h.2 hx⟩
def mutF (v1 : Form) (o1 : l15Rd) (fuel : Nat) : Option (Form × l15Rd) :=
 (m_spec_l15Rd_pick fuel o1 14).bind fun v9 =>
 (bif (decide (v9.1 = 0)) then
 (m_spec_l15Rd_num fuel v9.2 [0, 4, 1, 3]).bind fun v11 =>
 some ((Form.mk v11.1 v1.name v1.n v1.scopes v1.kids), v11.2)
 else
 (bif (decide (v9.1 = 1)) then
 (m_spec_l15Rd_of fuel v9.2 [(⟨#[]⟩ : ByteArray), (⟨#[65]⟩ : ByteArray), (⟨#[116, 111, 111, 108, 111, 110, 103, 97, 110, 97, 109, 101, 49]⟩ : ByteArray), (⟨#[122]⟩ : ByteArray), (⟨#[120, 32, 121]⟩ : ByteArray)]).bind fun v13 =>
 some ((Form.mk v1.kind v13.1 v1.n v1.scopes v1.kids), v13.2)
 else
 (bif (decide (v9.1 = 2)) then
 (m_spec_l15Rd_num fuel v9.2 [1000, (-1), 5]).bind fun v15 =>
 some ((Form.mk v1.kind v1.name v15.1 v1.scopes v1.kids), v15.2)
 else
 (bif (decide (v9.1 = 3)) then
 (m_spec_l15Rd_num fuel v9.2 [0, 100, 1, 50]).bind fun v17 =>
 chk (decide ((v1.scopes.length + [v17.1].length) * 8 ≤ 140737488355328)) <|
 some ((Form.mk v1.kind v1.name v1.n (v1.scopes ++ [v17.1]) v1.kids), v17.2)
 else
 some (v1, v9.2)))))
theorem mutF_tq (v1 : Form) (o : l15Rd) (K : Int) (h : OkRd o K) (hK : K + 2 ≤ 1000000000) (hw : v1.w ≤ 2 ^ 36) (hf : v1.fit) : TQ (mutF v1 o) (fun r => OkRd r.2 (K + 2) ∧ r.1.w ≤ v1.w + 1 ∧ r.1.fit) := by
  have hk := v1.w_kids
  obtain ⟨f1, f2, f3, f4⟩ := hf.parts
  unfold mutF
  refine TQ.bind (pick_tq o 14 _ h (by omega)) (fun v hv => ?_)
  refine TQ.cond (fun _ => ?_) (fun _ => TQ.cond (fun _ => ?_) (fun _ => TQ.cond (fun _ => ?_) (fun _ => TQ.cond (fun _ => ?_) (fun _ => ?_))))
  · exact TQ.bind (num_tq _ _ _ hv.1 (by omega) (by decide)) (fun w hw => TQ.val ⟨hw.1.mono (by omega), by simp only [Form.w]; omega, by rw [Form.fit]; exact ⟨f1, f2, f3, f4⟩⟩)
  · exact TQ.bind (of_tq _ _ _ hv.1 (by omega) (by decide)) (fun w hw => TQ.val ⟨hw.1.mono (by omega), by simp only [Form.w]; omega, by
      rw [Form.fit]
      refine ⟨?_, f2, f3, f4⟩
      have h2 := hw.2
      simp only [List.mem_cons, List.not_mem_nil, or_false] at h2
      rcases h2 with h2 | h2 | h2 | h2 | h2 <;> rw [h2] <;> decide⟩)
  · exact TQ.bind (num_tq _ _ _ hv.1 (by omega) (by decide)) (fun w hw => TQ.val ⟨hw.1.mono (by omega), by simp only [Form.w]; omega, by rw [Form.fit]; exact ⟨f1, f2, f3, f4⟩⟩)
  · exact TQ.bind (num_tq _ _ _ hv.1 (by omega) (by decide)) (fun w hw => TQ.chk (by simp; omega) (TQ.val ⟨hw.1.mono (by omega), by simp only [Form.w, List.length_append, List.length_cons, List.length_nil]; omega, by rw [Form.fit]; exact ⟨f1, by simp only [List.length_append, List.length_cons, List.length_nil]; omega, f3, f4⟩⟩))
  · exact TQ.val ⟨hv.1.mono (by omega), Nat.le_succ _, hf⟩
theorem l1Mutate_tq : ∀ (n : Nat) (c : Form) (o : l15Rd) (K : Int), c.w ≤ n → OkRd o K → c.w ≤ 2 ^ 30 → c.fit → K + 3 * c.w ≤ 1000000000 → TQ (fun m => m_spec_l1Mutate m o c) (fun r => OkRd r.2 (K + 3 * c.w) ∧ r.1.w ≤ c.w + 1 ∧ r.1.fit) := by
  intro n
  induction n with
  | zero => intro c o K h; have := c.w_kids; omega
  | succ n ih =>
    intro c o K h ho hb hf hK
    have hw := c.w_kids
    obtain ⟨f1, f2, f3, f4⟩ := hf.parts
    refine TQ.step (fun m => by rw [m_spec_l1Mutate]) ?_
    refine TQ.ev (l1Copy_tr _ c (Nat.le_refl _) (by omega)) ?_
    refine TQ.cond (fun hc => ?_) (fun _ => ?_)
    · have hpos : 0 < c.kids.length := by simpa using hc
      have hl := Form.ws_len c.kids
      refine TQ.bind (pick_tq o 2 _ ho (by omega)) (fun v hv => ?_)
      refine TQ.cond (fun _ => ?_) (fun _ => ?_)
      · refine TQ.bind (pick_tq _ _ _ hv.1 (by omega)) (fun w hw2 => ?_)
        obtain ⟨h1, _, h2, _⟩ := hw2
        obtain ⟨h2, h3⟩ := h2 (by omega)
        obtain ⟨x, hx, hm⟩ := idx_int h2 h3
        have hxw := Form.ws_mem hm
        have hx2 := (idx_some hx).2.2
        obtain ⟨r, hr, q1, q2, q3⟩ := ih x w.2 _ (by omega) h1 (by omega) (Form.fits_mem f4 hm) (by omega)
        refine ⟨_, Tr.idx hx (Tr.bind hr (Tr.idx hx Tr.val)), q1.mono (by omega), ?_, ?_⟩
        · have := Form.ws_set c.kids w.1.toNat r.1 1 (fun y hy => by rw [hx2] at hy; cases hy; exact q2)
          simp only [Form.w]; omega
        · rw [Form.fit]; exact ⟨f1, f2, by rw [List.length_set]; exact f3, Form.fits_set _ _ _ f4 q3⟩
      · exact (mutF_tq c _ _ hv.1 (by omega) (by omega) hf).mono (fun r hr => ⟨hr.1.mono (by omega), hr.2⟩)
    · exact (mutF_tq c _ _ ho (by omega) (by omega) hf).mono (fun r hr => ⟨hr.1.mono (by omega), hr.2⟩)
end Go.Abs
end
section
set_option linter.unusedVariables false
set_option linter.unusedSimpArgs false
namespace Go.Abs
theorem Form.fits_app : ∀ {a b : List Form}, Form.fits a → Form.fits b → Form.fits (a ++ b)
  | [], b, _, hb => hb
  | x :: a, b, ha, hb => by rw [Form.fits] at ha; rw [List.cons_append, Form.fits]; exact ⟨ha.1, Form.fits_app ha.2 hb⟩
theorem set_mid {α : Type} (d : List α) (x y : α) (zs : List α) : (d ++ x :: zs).set d.length y = (d ++ [y]) ++ zs := by
  rw [List.set_append_right _ _ (Nat.le_refl _), Nat.sub_self, List.set_cons_zero, List.append_assoc]; rfl
end Go.Abs
end
section
set_option linter.unusedVariables false
set_option linter.unusedSimpArgs false
namespace Go.Abs
theorem Form.fits_one {f : Form} (h : f.fit) : Form.fits [f] := by rw [Form.fits, Form.fits]; exact ⟨h, trivial⟩
theorem Form.fits_nil : Form.fits [] := by rw [Form.fits]; trivial
theorem TQ.same {α : Type} {F : Nat → Option α} {v : α} (h : Tr F v) : TQ F (fun r => r = v) := ⟨v, h, rfl⟩
theorem TQ.tr {α : Type} {F : Nat → Option α} {v : α} (h : TQ F (fun r => r = v)) : Tr F v := by obtain ⟨r, h, rfl⟩ := h; exact h
theorem TQ.at {α β : Type} {l : List α} {i : Int} {x : α} {g : α → Nat → Option β} {R : β → Prop} (hx : Abs.idx l i = some x) (h : TQ (fun m => g x m) R) : TQ (fun m => (Abs.idx l i).bind fun y => g y m) R := by
  obtain ⟨w, hw, hr⟩ := h
  exact ⟨w, Tr.idx hx hw, hr⟩
structure Dr (n : Nat) (f : Form) : Prop where
  w : f.w ≤ n
  fit : f.fit
theorem Dr.mono {n k : Nat} {f : Form} (h : Dr n f) (hk : n ≤ k) : Dr k f := ⟨Nat.le_trans h.w hk, h.fit⟩
end Go.Abs
end
section
set_option linter.unusedVariables false
set_option linter.unusedSimpArgs false
namespace Go.Abs
mutual
noncomputable def Form.part (x : Form) : Form → Bool
  | .mk a b c d kids => same (Form.mk a b c d kids) x || Form.parts x kids
noncomputable def Form.parts (x : Form) : List Form → Bool
  | [] => false
  | y :: ys => Form.part x y || Form.parts x ys
end
end Go.Abs
end
section
set_option linter.unusedVariables false
set_option linter.unusedSimpArgs false
namespace Go.Abs
def anys {α : Type} (D : α → Bool) : List α → Bool
  | [] => false
  | x :: xs => D x || anys D xs
def hasB (l : List Int) (n : Int) : Bool := anys (fun x => decide (x = n)) l
end Go.Abs
end
section
set_option linter.unusedVariables false
set_option linter.unusedSimpArgs false
namespace Go.Abs
structure PatS (p : Form) : Prop where
  ok : ∃ d, p.isOk d = true
  shp : p.shp = true
def KidS (x : Form) : Prop := (∃ d, x.isOk d = true) ∧ (isDots x = true ∨ x.shp = true)
theorem isOk_kids {f : Form} {d : Nat} (h : f.isOk d = true) : (f.kind ≠ 3 → f.kids = []) ∧ ∀ x ∈ f.kids, x.isOk (d - 1) = true := by
  rw [Form.isOk_eq] at h
  cases hd : decide (d = 0) with
  | true => rw [hd] at h; cases h
  | false =>
  rw [hd, cond_false] at h
  by_cases h1 : f.kind = 1
  · rw [decide_eq_true h1, cond_true] at h
    simp only [Bool.and_eq_true, decide_eq_true_eq] at h
    have : f.kids = [] := List.eq_nil_of_length_eq_zero (by omega)
    exact ⟨fun _ => this, fun x hx => by rw [this] at hx; cases hx⟩
  · rw [decide_eq_false h1, cond_false] at h
    by_cases h2 : f.kind = 2
    · rw [decide_eq_true h2, cond_true] at h
      simp only [Bool.and_eq_true, decide_eq_true_eq] at h
      have : f.kids = [] := List.eq_nil_of_length_eq_zero (by omega)
      exact ⟨fun _ => this, fun x hx => by rw [this] at hx; cases hx⟩
    · rw [decide_eq_false h2, cond_false] at h
      simp only [Bool.and_eq_true, decide_eq_true_eq] at h
      obtain ⟨h3, _, _, _, h4⟩ := h
      exact ⟨fun hn => absurd h3 hn, fun x hx => alls_iff.1 h4 x hx⟩
theorem kP_mem : ∀ {l : List Form} {pd : Bool}, Form.kP pd l = true → ∀ x ∈ l, isDots x = true ∨ x.shp = true
  | y :: ys, pd, h, x, hx => by
    rw [Form.kP, Bool.and_eq_true] at h
    rcases List.mem_cons.1 hx with rfl | hx
    · cases hd : isDots x with
      | true => exact .inl rfl
      | false => have := h.1; rw [hd, cond_false] at this; exact .inr this
    · exact kP_mem h.2 x hx
theorem PatS.parts {p : Form} (h : PatS p) : isDots p = false ∧ Form.kP true p.kids = true ∧ cntD p.kids ≤ 1 ∧ (∀ x ∈ p.kids, KidS x) ∧ (p.kind ≠ 3 → p.kids = []) := by
  obtain ⟨⟨d, hd⟩, hs⟩ := h
  rw [Form.shp_eq, Bool.and_eq_true, Bool.and_eq_true, Bool.not_eq_true', decide_eq_true_eq] at hs
  obtain ⟨k1, k2⟩ := isOk_kids hd
  exact ⟨hs.1, hs.2.1, hs.2.2, fun x hx => ⟨⟨_, k2 x hx⟩, kP_mem hs.2.1 x hx⟩, k1⟩
theorem Hit.ws_append : ∀ (a b : List Hit), Hit.ws (a ++ b) = Hit.ws a + Hit.ws b
  | [], b => by rw [List.nil_append, Hit.ws, Nat.zero_add]
  | x :: a, b => by rw [List.cons_append, Hit.ws, Hit.ws, Hit.ws_append a b]; omega
theorem Hit.fits_app : ∀ {a b : List Hit}, Hit.fits a → Hit.fits b → Hit.fits (a ++ b)
  | [], b, _, hb => hb
  | x :: a, b, ha, hb => by rw [Hit.fits] at ha; rw [List.cons_append, Hit.fits]; exact ⟨ha.1, Hit.fits_app ha.2 hb⟩
end Go.Abs
end
section
set_option linter.unusedVariables false
set_option linter.unusedSimpArgs false
namespace Go.Abs
def MR (o : Option (List Hit)) (out : List Hit) (r : List Hit × Bool) : Prop := r.2 = o.isSome ∧ ∀ h, o = some h → r.1 = out ++ h
theorem MR.none {out : List Hit} {x : List Hit} : MR none out (x, false) := ⟨rfl, fun h hh => by cases hh⟩
end Go.Abs
end
section
set_option linter.unusedVariables false
set_option linter.unusedSimpArgs false
namespace Go.Abs
def Bind.fit (b : Bind) : Prop := b.name.size ≤ 9223372036854775807 ∧ b.scopes.length ≤ 9223372036854775807
theorem Hit.ws_set : ∀ (l : List Hit) (i : Nat) (x : Hit) (B : Nat), (∀ y, l[i]? = some y → x.w ≤ y.w + B) → Hit.ws (l.set i x) ≤ Hit.ws l + B
  | [], i, x, B, _ => by simp [Hit.ws]
  | y :: l, 0, x, B, h => by
    have := h y rfl
    rw [List.set_cons_zero, Hit.ws, Hit.ws]; omega
  | y :: l, i + 1, x, B, h => by
    have := Hit.ws_set l i x B (fun z hz => h z (by simpa using hz))
    rw [List.set_cons_succ, Hit.ws, Hit.ws]; omega
theorem Hit.fits_set : ∀ (l : List Hit) (i : Nat) (x : Hit), Hit.fits l → x.fit → Hit.fits (l.set i x)
  | [], i, x, h, _ => by simpa using h
  | y :: l, 0, x, h, hx => by
    rw [Hit.fits] at h; rw [List.set_cons_zero, Hit.fits]; exact ⟨hx, h.2⟩
  | y :: l, i + 1, x, h, hx => by
    rw [Hit.fits] at h; rw [List.set_cons_succ, Hit.fits]; exact ⟨h.1, Hit.fits_set l i x h.2 hx⟩
end Go.Abs
end
section
set_option linter.unusedVariables false
set_option linter.unusedSimpArgs false
namespace Go.Abs
structure Rule.fit (r : Rule) : Prop where
  p : r.pattern.fit
  t : r.template.fit
structure Macro.fit (m : Macro) : Prop where
  ll : m.literals.length ≤ 9223372036854775807
  l : Form.fits m.literals
  rl : m.rules.length ≤ 9223372036854775807
  r : ∀ r ∈ m.rules, r.fit
structure Expansion.fit (x : Expansion) : Prop where
  bl : x.binds.length ≤ 9223372036854775807
  b : ∀ b ∈ x.binds, b.fit
  ml : x.macros.length ≤ 9223372036854775807
  m : ∀ m ∈ x.macros, m.fit
end Go.Abs
end
section
set_option linter.unusedVariables false
set_option linter.unusedSimpArgs false
set_option maxHeartbeats 2000000
namespace Go.Abs
mutual
def Core.fit : Core → Prop
  | .mk _ _ name _ ids data kids => name.size ≤ 9223372036854775807 ∧ ids.length ≤ 9223372036854775807 ∧ data.fit ∧ kids.length ≤ 9223372036854775807 ∧ Core.fits kids
def Core.fits : List Core → Prop
  | [] => True
  | x :: xs => x.fit ∧ Core.fits xs
end
theorem Core.fits_mem : ∀ {l : List Core} {x : Core}, Core.fits l → x ∈ l → x.fit
  | y :: l, x, h, hx => by
    rw [Core.fits] at h
    rcases List.mem_cons.1 hx with rfl | hx
    · exact h.1
    · exact Core.fits_mem h.2 hx
theorem Core.fit.parts {f : Core} (h : f.fit) : f.name.size ≤ 9223372036854775807 ∧ f.ids.length ≤ 9223372036854775807 ∧ f.data.fit ∧ f.kids.length ≤ 9223372036854775807 ∧ Core.fits f.kids := by
  obtain ⟨a, b, c, d, e, g, k⟩ := f; rw [Core.fit] at h; exact h
theorem Core.w_pos (f : Core) : 1 ≤ f.w := by have := f.w_kids; omega
abbrev e0 : ByteArray := ⟨#[]⟩
mutual
def Form.scs : Form → List Int
  | .mk _ _ _ scopes kids => scopes ++ Form.scss kids
def Form.scss : List Form → List Int
  | [] => []
  | f :: fs => f.scs ++ Form.scss fs
end
def noScs (f : Form) : Bool := f.scs.isEmpty
end Go.Abs
end
section
set_option linter.unusedVariables false
set_option linter.unusedSimpArgs false
set_option maxHeartbeats 4000000
namespace Go.Abs
def idsOk : List Int → List Int → Bool
  | _, [] => true
  | inn, x :: xs => (decide (1 ≤ x) && decide (x ≤ 999)) && (!hasB inn x && idsOk (inn ++ [x]) xs)
def lenI (c : Core) (k : Int) : Bool := decide ((c.kids.length : Int) = k)
noncomputable def Core.okF (c : Core) (ar : List Int) : Bool :=
  bif decide (c.kind = 1) then (decide (1 ≤ c.id) && decide (c.id ≤ 999)) && (hasB ar c.id && (decide (c.name = e0) && (decide (c.n = 0) && (decide (c.ids = []) && (same c.data form0 && lenI c 0)))))
  else bif decide (c.kind = 2) then nmOk c.name && (decide (c.id = 0) && (decide (c.n = 0) && (decide (c.ids = []) && (same c.data form0 && lenI c 0))))
  else bif decide (c.kind = 3) then (decide (0 ≤ c.n) && decide (c.n ≤ 999)) && (decide (c.id = 0) && (decide (c.name = e0) && (decide (c.ids = []) && (same c.data form0 && lenI c 0))))
  else bif decide (c.kind = 4) then (c.data.valid && noScs c.data) && (decide (c.id = 0) && (decide (c.name = e0) && (decide (c.n = 0) && (decide (c.ids = []) && lenI c 0))))
  else bif decide (c.kind = 5) then idsOk ar c.ids && (decide (c.id = 0) && (decide (c.name = e0) && (decide (c.n = 0) && (same c.data form0 && lenI c 1))))
  else bif decide (c.kind = 6) then (decide (c.id = 0) && (decide (c.name = e0) && (decide (c.n = 0) && (decide (c.ids = []) && (same c.data form0 && decide (1 ≤ (c.kids.length : Int)))))))
  else bif decide (c.kind = 7) then (decide (c.id = 0) && (decide (c.name = e0) && (decide (c.n = 0) && (decide (c.ids = []) && (same c.data form0 && lenI c 3)))))
  else false
mutual
noncomputable def Core.isOk : Core → List Int → Nat → Bool
  | .mk a b c d e f g, ar, dd => bif decide (dd = 0) then false else Core.okF (.mk a b c d e f g) ar && Core.isOks g (ar ++ e) (dd - 1)
noncomputable def Core.isOks : List Core → List Int → Nat → Bool
  | [], _, _ => true
  | c :: cs, ar, d => c.isOk ar d && Core.isOks cs ar d
end
mutual
def Core.cnt : Core → Nat
  | .mk _ _ _ _ _ _ kids => 1 + Core.cnts kids
def Core.cnts : List Core → Nat
  | [] => 0
  | f :: fs => f.cnt + Core.cnts fs
end
theorem Core.isOks_eq (ar : List Int) (d : Nat) : ∀ l : List Core, Core.isOks l ar d = alls (fun x => x.isOk ar d) l
  | [] => rfl
  | f :: fs => by rw [Core.isOks, alls, Core.isOks_eq ar d fs]
theorem Core.isOk_eq (c : Core) (ar : List Int) (d : Nat) : c.isOk ar d = bif decide (d = 0) then false else c.okF ar && alls (fun x => x.isOk (ar ++ c.ids) (d - 1)) c.kids := by
  obtain ⟨a, b, c, d, e, f, g⟩ := c; rw [Core.isOk, Core.isOks_eq]; rfl
theorem Core.cnt_eq (f : Core) : f.cnt = 1 + Core.cnts f.kids := by obtain ⟨a, b, c, e, g, h, k⟩ := f; rw [Core.cnt]; rfl
mutual
theorem Core.cnt_w : ∀ f : Core, f.cnt ≤ f.w
  | .mk a b c d e f g => by have := Core.cnts_ws g; rw [Core.cnt, Core.w]; omega
theorem Core.cnts_ws : ∀ l : List Core, Core.cnts l ≤ Core.ws l
  | [] => by simp [Core.cnts]
  | f :: fs => by have := Core.cnt_w f; have := Core.cnts_ws fs; rw [Core.cnts, Core.ws]; omega
end
noncomputable def Core.valid (c : Core) : Bool := c.isOk [] 120 && decide (c.cnt ≤ 600)
end Go.Abs
end
section
set_option linter.unusedVariables false
set_option linter.unusedSimpArgs false
set_option maxHeartbeats 4000000
namespace Go.Abs
theorem Core.fits_app : ∀ {a b : List Core}, Core.fits a → Core.fits b → Core.fits (a ++ b)
  | [], b, _, h => h
  | x :: xs, b, h1, h2 => by rw [Core.fits] at h1; rw [List.cons_append, Core.fits]; exact ⟨h1.1, Core.fits_app h1.2 h2⟩
theorem Core.fits_set : ∀ (l : List Core) (i : Nat) (x : Core), Core.fits l → x.fit → Core.fits (l.set i x)
  | [], i, x, h, _ => h
  | y :: l, 0, x, h, hx => by rw [Core.fits] at h; rw [List.set_cons_zero, Core.fits]; exact ⟨hx, h.2⟩
  | y :: l, i + 1, x, h, hx => by rw [Core.fits] at h; rw [List.set_cons_succ, Core.fits]; exact ⟨h.1, Core.fits_set l i x h.2 hx⟩
theorem Core.ws_set : ∀ (l : List Core) (i : Nat) (x : Core) (B : Nat), (∀ y, l[i]? = some y → x.w ≤ y.w + B) → Core.ws (l.set i x) ≤ Core.ws l + B
  | [], i, x, B, _ => by simp [Core.ws]
  | y :: l, 0, x, B, h => by
    have := h y rfl
    rw [List.set_cons_zero, Core.ws, Core.ws]; omega
  | y :: l, i + 1, x, B, h => by
    have := Core.ws_set l i x B (fun z hz => h z (by simpa using hz))
    rw [List.set_cons_succ, Core.ws, Core.ws]; omega
end Go.Abs
end
section
set_option linter.unusedVariables false
set_option linter.unusedSimpArgs false
set_option maxHeartbeats 4000000
namespace Go.Abs
structure AInv (m : Int → Option Int) (l r : List Int) : Prop where
  len : l.length = r.length
  nl : l.Nodup
  nr : r.Nodup
  at_ : ∀ (i : Nat) (x : Int), l[i]? = some x → m x = r[i]?
theorem AInv.nil : AInv map0 [] [] := ⟨rfl, List.nodup_nil, List.nodup_nil, fun i x h => by simp at h⟩
theorem AInv.get {m : Int → Option Int} {l r : List Int} (h : AInv m l r) {x : Int} (hx : x ∈ l) : ∃ (i : Nat) (y : Int), l[i]? = some x ∧ r[i]? = some y ∧ mapGet m x = y := by
  obtain ⟨i, hi⟩ := List.mem_iff_getElem?.1 hx
  have hl := (List.getElem?_eq_some_iff.1 hi).1
  have hr : r[i]? = some (r[i]'(by have := h.len; omega)) := List.getElem?_eq_getElem _
  refine ⟨i, _, hi, hr, ?_⟩
  unfold mapGet; rw [h.at_ i x hi, hr]; rfl
end Go.Abs
end
section
set_option linter.unusedVariables false
set_option linter.unusedSimpArgs false
set_option maxHeartbeats 4000000
namespace Go.Abs
mutual
def Core.dep : Core → Nat
  | .mk _ _ _ _ _ _ kids => Core.deps kids + 1
def Core.deps : List Core → Nat
  | [] => 0
  | x :: xs => max x.dep (Core.deps xs)
end
end Go.Abs
end
section
set_option linter.unusedVariables false
set_option linter.unusedSimpArgs false
set_option maxHeartbeats 2000000
namespace Go.Abs
open Go.Lib (itoa join joinTail decDigits nDigits)
def mkB (l : List UInt8) : ByteArray := ⟨l.toArray⟩
theorem mkB_list (l : List UInt8) : (mkB l).data.toList = l := by unfold mkB; simp
theorem mkB_size (l : List UInt8) : (mkB l).size = l.length := by rw [sz_list, mkB_list]
theorem mkB_of (s : ByteArray) : mkB s.data.toList = s := by unfold mkB; simp
theorem mkB_inj {a b : List UInt8} (h : mkB a = mkB b) : a = b := by rw [← mkB_list a, h, mkB_list]
theorem bcat_mk {a b : List UInt8} (h : a.length + b.length ≤ 2 ^ 60) : bcat (mkB a) (mkB b) = some (mkB (a ++ b)) := by
  unfold bcat
  rw [mkB_size, mkB_size, decide_eq_true (by omega), cond_true]
  refine congrArg some (ByteArray.ext ?_)
  rw [ByteArray.data_append]
  unfold mkB
  simp
theorem Tr.cat {γ : Type} {x y : ByteArray} {a b : List UInt8} {g : ByteArray → Nat → Option γ} {w : γ} (hx : x = mkB a) (hy : y = mkB b) (hl : a.length + b.length ≤ 2 ^ 60) (h : Tr (fun m => g (mkB (a ++ b)) m) w) : Tr (fun m => (bcat x y).bind fun v => g v m) w := by
  subst hx; subst hy
  exact Tr.eq (fun m => by rw [bcat_mk hl, Option.bind_some]) h
theorem nDig_le {n k : Nat} (h : n < 10 ^ (k + 1)) : nDigits n ≤ k + 1 := by
  induction k generalizing n with
  | zero => rw [Lib.nDigits_small (by simpa using h)]; omega
  | succ k ih =>
    by_cases h1 : n < 10
    · rw [Lib.nDigits_small h1]; omega
    · rw [Lib.nDigits_big h1]
      have := @ih (n / 10) (by rw [Nat.pow_succ] at h; omega)
      omega
theorem itoa_nat (n : Nat) : itoa (n : Int) = decDigits n := by unfold Lib.itoa; rw [if_neg (by omega), Int.toNat_natCast]
theorem itoa_len {n : Int} (h0 : 0 ≤ n) (h : n ≤ 999) : (itoa n).length ≤ 3 := by
  obtain ⟨k, rfl⟩ := Int.eq_ofNat_of_zero_le h0
  rw [itoa_nat, Lib.decDigits_length]
  exact nDig_le (k := 2) (by omega)
theorem itoa_tr {n : Int} (h0 : 0 ≤ n) (h : n ≤ 999) : Tr (fun m => m_strconv_Itoa m n) (mkB (itoa n)) :=
  Tr.eq (fun m => by unfold m_strconv_Itoa; rfl) (Tr.chk (decide_eq_true (by omega)) (Tr.chk (decide_eq_true (by omega)) Tr.val))
theorem dig_str {k : Nat} (h : k < 10) : strOf [w8 (w64 (48 + (k : Int)))] = mkB [UInt8.ofNat (48 + k)] := by
  have : k = 0 ∨ k = 1 ∨ k = 2 ∨ k = 3 ∨ k = 4 ∨ k = 5 ∨ k = 6 ∨ k = 7 ∨ k = 8 ∨ k = 9 := by omega
  rcases this with rfl | rfl | rfl | rfl | rfl | rfl | rfl | rfl | rfl | rfl <;> rfl
theorem dec_loop : ∀ (n : Nat) (acc : List UInt8), n ≤ 2 ^ 40 → acc.length + n ≤ 2 ^ 50 → Tr (fun m => m_spec_l15Dec_l1 m (n : Int) (mkB acc)) (mkB (decDigits n ++ acc)) := by
  intro n
  induction n using Nat.strongRecOn with
  | _ n ih =>
    intro acc hn hl
    refine Tr.step (fun m => by rw [m_spec_l15Dec_l1]) ?_
    by_cases h : n < 10
    · refine Tr.ff (decide_eq_false (by omega)) ?_
      rw [dig_str h, Lib.decDigits_one h]
      exact Tr.cat rfl rfl (by simp; omega) Tr.val
    · refine Tr.tt (decide_eq_true (by omega)) ?_
      have e1 : (n : Int).tmod 10 = ((n % 10 : Nat) : Int) := by rw [Int.tmod_eq_emod_of_nonneg (by omega)]; omega
      have e2 : (n : Int).tdiv 10 = ((n / 10 : Nat) : Int) := by rw [Int.tdiv_eq_ediv_of_nonneg (by omega)]; omega
      rw [e1, e2, dig_str (by omega)]
      refine Tr.cat rfl rfl (by simp; omega) ?_
      have := ih (n / 10) (by omega) ([UInt8.ofNat (48 + n % 10)] ++ acc) (by omega) (by simp; omega)
      rw [Lib.decDigits, dif_neg h, List.append_assoc]
      exact Tr.eq (fun m => by rw [w64_in (by omega)]) this
theorem dec_tr {n : Int} (h0 : 0 ≤ n) (h : n ≤ 999) : Tr (fun m => m_spec_l15Dec m n) (mkB (itoa n)) := by
  obtain ⟨k, rfl⟩ := Int.eq_ofNat_of_zero_le h0
  have := dec_loop k [] (by omega) (by simp; omega)
  rw [List.append_nil, ← itoa_nat] at this
  refine Tr.step (fun m => by rw [m_spec_l15Dec]) ?_
  refine Tr.ff (decide_eq_false (by omega)) ?_
  exact Tr.ff (decide_eq_false (by omega)) this
theorem join_len : ∀ (xs : List (List UInt8)) (sep : List UInt8), (join xs sep).length ≤ Lib.lens xs + xs.length * sep.length
  | [], sep => by simp [Lib.join_nil]
  | x :: r, sep => by
    rw [Lib.join_cons, List.length_append]
    have : ∀ r : List (List UInt8), (joinTail sep r).length = Lib.lens r + r.length * sep.length := by
      intro r
      induction r with
      | nil => simp [joinTail, Lib.lens]
      | cons y r ih =>
        have e : joinTail sep (y :: r) = sep ++ y ++ joinTail sep r := by simp [joinTail]
        rw [e, List.length_append, List.length_append, ih]
        simp only [Lib.lens, List.map_cons, List.sum_cons, List.length_cons]
        rw [Nat.succ_mul]; omega
    rw [this]
    simp only [Lib.lens, List.map_cons, List.sum_cons, List.length_cons]
    rw [Nat.succ_mul]; omega
theorem jt_cons (sep y : List UInt8) (r : List (List UInt8)) : joinTail sep (y :: r) = sep ++ y ++ joinTail sep r := by simp [joinTail]
theorem lens_cons (x : List UInt8) (r : List (List UInt8)) : Lib.lens (x :: r) = x.length + Lib.lens r := by simp [Lib.lens]
theorem join_tr {xs : List (List UInt8)} {sep : List UInt8} (h1 : xs.length ≤ 2 ^ 40) (h2 : Lib.lens xs + xs.length * sep.length ≤ 2 ^ 40) : Tr (fun m => m_strings_Join m (xs.map mkB) (mkB sep)) (mkB (join xs sep)) := by
  have e : ((xs.map mkB).map fun s => s.data.toList) = xs := by
    rw [List.map_map]
    conv => rhs; rw [← List.map_id xs]
    exact List.map_congr_left (fun x _ => mkB_list x)
  have := join_len xs sep
  refine Tr.eq (fun m => by unfold m_strings_Join; rw [e, mkB_list]) ?_
  exact Tr.chk (decide_eq_true (by rw [List.length_map]; omega)) (Tr.chk (decide_eq_true (by omega)) Tr.val)
def scTx (sc : List Int) : List UInt8 := bif decide (sc.length = 0) then [] else [123] ++ join (sc.map itoa) [44] ++ [125]
mutual
def Form.tx : Form → List UInt8
  | .mk k nm n sc kids => bif decide (k = 1) then nm.data.toList ++ scTx sc else bif decide (k = 2) then itoa n else [40] ++ join (Form.txs kids) [32] ++ [41]
def Form.txs : List Form → List (List UInt8)
  | [] => []
  | f :: fs => f.tx :: Form.txs fs
end
theorem Form.txs_eq : ∀ l : List Form, Form.txs l = l.map Form.tx
  | [] => rfl
  | f :: fs => by rw [Form.txs, Form.txs_eq fs]; rfl
theorem Form.tx_eq (f : Form) : f.tx = bif decide (f.kind = 1) then f.name.data.toList ++ scTx f.scopes else bif decide (f.kind = 2) then itoa f.n else [40] ++ join (f.kids.map Form.tx) [32] ++ [41] := by
  obtain ⟨a, b, c, d, e⟩ := f; rw [Form.tx, Form.txs_eq]; rfl
theorem nmOk_size {s : ByteArray} (h : nmOk s = true) : s.size ≤ 12 := by
  unfold nmOk at h
  rw [Bool.or_eq_true, Bool.or_eq_true, decide_eq_true_eq, decide_eq_true_eq, Bool.and_eq_true] at h
  rcases h with rfl | rfl | h
  · decide
  · decide
  · have := h.2
    unfold nmSz at this
    rw [Bool.and_eq_true, decide_eq_true_eq, decide_eq_true_eq] at this
    omega
theorem isOk_form {f : Form} {d : Nat} (h : f.isOk d = true) : (f.kind = 1 ∧ nmOk f.name = true ∧ scOk f.scopes = true) ∨ (f.kind = 2 ∧ 0 ≤ f.n ∧ f.n ≤ 999) ∨ (f.kind = 3 ∧ f.scopes = []) := by
  rw [Form.isOk_eq] at h
  cases hd : decide (d = 0) with
  | true => rw [hd] at h; cases h
  | false =>
  rw [hd, cond_false] at h
  by_cases h1 : f.kind = 1
  · rw [decide_eq_true h1, cond_true] at h
    simp only [Bool.and_eq_true] at h
    exact .inl ⟨h1, h.1, h.2.2.1⟩
  · rw [decide_eq_false h1, cond_false] at h
    by_cases h2 : f.kind = 2
    · rw [decide_eq_true h2, cond_true] at h
      simp only [Bool.and_eq_true, decide_eq_true_eq] at h
      exact .inr (.inl ⟨h2, h.2.1.1, h.2.1.2⟩)
    · rw [decide_eq_false h2, cond_false] at h
      simp only [Bool.and_eq_true, decide_eq_true_eq] at h
      exact .inr (.inr ⟨h.1, List.length_eq_zero_iff.1 (by omega)⟩)
theorem scF_all : ∀ {l : List Int} {p : Option Int}, scF p l = true → ∀ x ∈ l, 1 ≤ x ∧ x ≤ 99
  | [], p, h, x, hx => by cases hx
  | y :: l, p, h, x, hx => by
    rw [scF] at h
    simp only [Bool.and_eq_true, decide_eq_true_eq] at h
    rcases List.mem_cons.1 hx with rfl | hx
    · exact h.1
    · exact scF_all h.2.2 x hx
theorem scOk_all {l : List Int} (h : scOk l = true) : (∀ x ∈ l, 1 ≤ x ∧ x ≤ 99) ∧ l.length ≤ 24 := by
  unfold scOk at h
  rw [Bool.and_eq_true, decide_eq_true_eq] at h
  exact ⟨scF_all h.1, by omega⟩
theorem lens_itoa : ∀ {l : List Int}, (∀ x ∈ l, 1 ≤ x ∧ x ≤ 999) → Lib.lens (l.map itoa) ≤ 3 * l.length
  | [], _ => by simp [Lib.lens]
  | x :: l, h => by
    have h1 := lens_itoa (l := l) (fun y hy => h y (by simp [hy]))
    have h2 := itoa_len (n := x) (by have := h x (by simp); omega) (by have := h x (by simp); omega)
    rw [List.map_cons, lens_cons, List.length_cons]; omega
theorem scTx_len {l : List Int} (h : scOk l = true) : (scTx l).length ≤ 2 + 4 * l.length := by
  obtain ⟨h1, h2⟩ := scOk_all h
  unfold scTx
  cases decide (l.length = 0) with
  | true => simp
  | false =>
    have a := join_len (l.map itoa) [44]
    have b := lens_itoa (l := l) (fun x hx => by have := h1 x hx; omega)
    simp only [List.length_map, List.length_singleton] at a
    rw [cond_false]; simp only [List.length_append, List.length_singleton]; omega
theorem tx_len : ∀ (n : Nat) (f : Form) (d : Nat), f.w ≤ n → f.isOk d = true → f.tx.length ≤ 16 * f.w := by
  intro n
  induction n with
  | zero => intro f d h; have := f.w_kids; omega
  | succ n ih =>
    intro f d h hok
    have hw := f.w_kids
    rw [Form.tx_eq]
    rcases isOk_form hok with ⟨h1, h2, h3⟩ | ⟨h1, h2, h3⟩ | ⟨h1, h2⟩
    · have a := nmOk_size h2
      have b := scTx_len h3
      rw [sz_list] at a
      rw [decide_eq_true h1, cond_true, List.length_append]; omega
    · have a := itoa_len h2 h3
      rw [decide_eq_false (by omega), cond_false, decide_eq_true h1, cond_true]; omega
    · have hk := (isOk_kids hok).2
      have key : ∀ l : List Form, (∀ x ∈ l, x ∈ f.kids) → Lib.lens (l.map Form.tx) + l.length ≤ 16 * Form.ws l := by
        intro l
        induction l with
        | nil => intro _; simp [Lib.lens, Form.ws]
        | cons x l ihl =>
          intro hx
          have a := ihl (fun y hy => hx y (by simp [hy]))
          have hm := Form.ws_mem (hx x (by simp))
          have b := ih x (d - 1) (by omega) (hk x (hx x (by simp)))
          rw [List.map_cons, lens_cons, Form.ws, List.length_cons]; omega
      have a := join_len (f.kids.map Form.tx) [32]
      have b := key f.kids (fun x hx => hx)
      simp only [List.length_map, List.length_singleton] at a
      rw [decide_eq_false (by omega), cond_false, decide_eq_false (by omega), cond_false]
      simp only [List.length_append, List.length_singleton]; omega
theorem loop_txt {α γ : Type} {xs : List α} {f : α → List UInt8} {L : Nat → List ByteArray → Int → Option γ} {E : Nat → α → Option ByteArray} {F : Nat → List ByteArray → Option γ} {w : γ}
    (h0 : ∀ m acc k, L (m + 1) acc k = bif decide (k < (xs.length : Int)) then (idx xs k).bind fun a => (E m a).bind fun v => chk (decide ((acc.length + [v].length) * 16 ≤ 140737488355328)) (L m (acc ++ [v]) (k + 1)) else F m acc)
    (hE : ∀ a ∈ xs, Tr (fun m => E m a) (mkB (f a))) (hb : xs.length ≤ 2 ^ 40) (hF : Tr (fun m => F m ((xs.map f).map mkB)) w) : Tr (fun m => L m [] 0) w := by
  have key := drop_ind xs (fun k zs => ∀ acc : List (List UInt8), acc.length = k → acc ++ zs.map f = xs.map f → Tr (fun m => L m (acc.map mkB) (k : Int)) w) ?_ ?_ 0 (Nat.zero_le _) [] rfl (by simp)
  · exact key
  · intro acc _ hacc
    rw [List.map_nil, List.append_nil] at hacc
    refine Tr.step (fun m => by rw [h0, ltN_self, cond_false]) ?_
    rw [hacc]; exact hF
  · intro k x zs hk hx hd ih acc hl hacc
    refine Tr.step (fun m => by rw [h0, ltN hk, cond_true, idx_nat hx, Option.bind_some, succN]) ?_
    refine Tr.bind (hE x (List.mem_of_getElem? hx)) (Tr.chk (decide_eq_true (by simp; omega)) ?_)
    have := ih (acc ++ [f x]) (by simp [hl]) (by rw [List.append_assoc]; exact hacc)
    rw [List.map_append] at this
    exact this
theorem implText_n : ∀ (n : Nat) (f : Form) (d : Nat), f.w ≤ n → f.w ≤ 2 ^ 30 → f.isOk d = true → Tr (fun m => m_impl_formText m f) (mkB f.tx) := by
  intro n
  induction n with
  | zero => intro f d h; have := f.w_kids; omega
  | succ n ih =>
    intro f d h hb hok
    have hw := f.w_kids
    refine Tr.step (fun m => by rw [m_impl_formText]) ?_
    rw [Form.tx_eq]
    rcases isOk_form hok with ⟨h1, h2, h3⟩ | ⟨h1, h2, h3⟩ | ⟨h1, h2⟩
    · refine Tr.tt (decide_eq_true h1) ?_
      rw [decide_eq_true h1, cond_true]
      obtain ⟨s1, s2⟩ := scOk_all h3
      unfold scTx
      by_cases h0 : f.scopes.length = 0
      · rw [decide_eq_true h0, cond_true, List.append_nil, mkB_of]
        exact Tr.tt (decide_eq_true (by omega)) Tr.val
      · rw [decide_eq_false h0, cond_false]
        refine Tr.ff (decide_eq_false (by omega)) ?_
        refine loop_txt (xs := f.scopes) (f := itoa) (L := fun m g k => m_impl_formText_l2 m f g k) (E := fun m a => m_strconv_Itoa m a) (F := fun m g => m_impl_formText_j1 m f g) (fun m g k => by rw [m_impl_formText_l2]) (fun a ha => itoa_tr (by have := s1 a ha; omega) (by have := s1 a ha; omega)) (by omega) ?_
        have b := lens_itoa (l := f.scopes) (fun x hx => by have := s1 x hx; omega)
        have a := join_len (f.scopes.map itoa) [44]
        simp only [List.length_map, List.length_singleton] at a
        have hn := nmOk_size h2
        rw [sz_list] at hn
        refine Tr.step (fun m => by rw [m_impl_formText_j1]) ?_
        refine Tr.cat (a := f.name.data.toList) (b := [123]) (mkB_of _).symm rfl (by simp only [List.length_append, List.length_singleton]; omega) ?_
        refine Tr.bind (join_tr (xs := f.scopes.map itoa) (sep := [44]) (by rw [List.length_map]; omega) (by simp only [List.length_map, List.length_singleton]; omega)) ?_
        refine Tr.cat rfl rfl (by simp only [List.length_append, List.length_singleton]; omega) ?_
        refine Tr.cat (b := [125]) rfl rfl (by simp only [List.length_append, List.length_singleton]; omega) ?_
        rw [show f.name.data.toList ++ ([123] ++ join (f.scopes.map itoa) [44] ++ [125]) = f.name.data.toList ++ [123] ++ join (f.scopes.map itoa) [44] ++ [125] by simp]
        exact Tr.val
    · refine Tr.ff (decide_eq_false (by omega)) (Tr.tt (decide_eq_true h1) ?_)
      rw [decide_eq_false (show ¬ f.kind = 1 by omega), cond_false, decide_eq_true h1, cond_true]
      exact Tr.bind (itoa_tr h2 h3) Tr.val
    · refine Tr.ff (decide_eq_false (by omega)) (Tr.ff (decide_eq_false (by omega)) ?_)
      rw [decide_eq_false (show ¬ f.kind = 1 by omega), cond_false, decide_eq_false (show ¬ f.kind = 2 by omega), cond_false]
      have hk := (isOk_kids hok).2
      have hl := Form.ws_len f.kids
      have hj : ∀ l : List Form, (∀ x ∈ l, x ∈ f.kids) → Lib.lens (l.map Form.tx) ≤ 16 * Form.ws l := by
        intro l
        induction l with
        | nil => intro _; simp [Lib.lens]
        | cons x l ihl =>
          intro hx
          have a := ihl (fun y hy => hx y (by simp [hy]))
          have b := tx_len _ x (d - 1) (Nat.le_refl _) (hk x (hx x (by simp)))
          rw [List.map_cons, lens_cons, Form.ws]; omega
      have hjj := hj f.kids (fun x hx => hx)
      have a := join_len (f.kids.map Form.tx) [32]
      simp only [List.length_map, List.length_singleton] at a
      refine loop_txt (xs := f.kids) (f := Form.tx) (L := fun m g k => m_impl_formText_l3 m f g k) (E := fun m a => m_impl_formText m a) (F := fun m g => (m_strings_Join m g (⟨#[32]⟩ : ByteArray)).bind fun v27 => (bcat (⟨#[40]⟩ : ByteArray) v27).bind fun v28 => (bcat v28 (⟨#[41]⟩ : ByteArray)).bind fun v29 => some v29) (fun m g k => by rw [m_impl_formText_l3]) (fun x hx => ih x (d - 1) (by have := Form.ws_mem hx; omega) (by have := Form.ws_mem hx; omega) (hk x hx)) (by omega) ?_
      refine Tr.bind (join_tr (xs := f.kids.map Form.tx) (sep := [32]) (by rw [List.length_map]; omega) (by simp only [List.length_map, List.length_singleton]; omega)) ?_
      refine Tr.cat (a := [40]) rfl rfl (by simp; omega) ?_
      exact Tr.cat (b := [41]) rfl rfl (by simp; omega) Tr.val
theorem implText_tr {f : Form} {d : Nat} (hb : f.w ≤ 2 ^ 30) (h : f.isOk d = true) : Tr (fun m => m_impl_formText m f) (mkB f.tx) := implText_n _ f d (Nat.le_refl _) hb h
def tailL (sep : List UInt8) (k : Nat) (l : List (List UInt8)) : List UInt8 := bif decide (k = 0) then join l sep else joinTail sep l
theorem tailL_cons (sep : List UInt8) (k : Nat) (x : List UInt8) (l : List (List UInt8)) : tailL sep k (x :: l) = (bif decide (k = 0) then [] else sep) ++ x ++ tailL sep (k + 1) l := by
  unfold tailL
  rw [decide_eq_false (show ¬ k + 1 = 0 by omega), cond_false]
  cases decide (k = 0) with
  | true => rw [cond_true, cond_true, Lib.join_cons]; simp
  | false => rw [cond_false, cond_false, jt_cons]
theorem tailL_nil (sep : List UInt8) (k : Nat) : tailL sep k [] = [] := by unfold tailL; cases decide (k = 0) <;> rfl
theorem loop_sep {α γ : Type} {xs : List α} {f : α → List UInt8} {sep : List UInt8} {L : Nat → ByteArray → Int → Option γ} {F : Nat → ByteArray → Option γ} {w : γ} {a0 : List UInt8} (N : Nat)
    (h1 : ∀ (k : Nat) (a : α) (acc : List UInt8), xs[k]? = some a → acc.length + (f a).length + sep.length ≤ 2 ^ 50 → ∀ {w : γ}, Tr (fun m => L m (mkB (acc ++ (bif decide (k = 0) then [] else sep) ++ f a)) ((k + 1 : Nat) : Int)) w → Tr (fun m => L m (mkB acc) (k : Int)) w)
    (h2 : ∀ (acc : List UInt8) {w : γ}, Tr (fun m => F m (mkB acc)) w → Tr (fun m => L m (mkB acc) (xs.length : Int)) w)
    (hb : a0.length + Lib.lens (xs.map f) + xs.length * sep.length + sep.length ≤ 2 ^ 50) (hF : Tr (fun m => F m (mkB (a0 ++ join (xs.map f) sep))) w) : Tr (fun m => L m (mkB a0) 0) w := by
  have key := drop_ind xs (fun k zs => ∀ acc : List UInt8, acc.length + Lib.lens (zs.map f) + zs.length * sep.length + sep.length ≤ 2 ^ 50 → acc ++ tailL sep k (zs.map f) = a0 ++ join (xs.map f) sep → Tr (fun m => L m (mkB acc) (k : Int)) w) ?_ ?_ 0 (Nat.zero_le _) a0 hb (by rw [List.drop_zero]; rfl)
  · exact key
  · intro acc _ hacc
    rw [List.map_nil, tailL_nil, List.append_nil] at hacc
    refine h2 acc ?_
    rw [hacc]; exact hF
  · intro k x zs hk hx hd ih acc hl hacc
    rw [List.map_cons, lens_cons, List.length_cons, Nat.succ_mul] at hl
    rw [List.map_cons, tailL_cons] at hacc
    refine h1 k x acc hx (by omega) (ih _ ?_ ?_)
    · simp only [List.length_append]
      cases decide (k = 0) with
      | true => rw [cond_true, List.length_nil]; omega
      | false => rw [cond_false]; omega
    · rw [← hacc]; simp
theorem specText_n : ∀ (n : Nat) (f : Form) (d : Nat), f.w ≤ n → f.w ≤ 2 ^ 30 → f.isOk d = true → Tr (fun m => m_spec_l1Text m f) (mkB f.tx) := by
  intro n
  induction n with
  | zero => intro f d h; have := f.w_kids; omega
  | succ n ih =>
    intro f d h hb hok
    have hw := f.w_kids
    refine Tr.step (fun m => by rw [m_spec_l1Text]) ?_
    rw [Form.tx_eq]
    rcases isOk_form hok with ⟨h1, h2, h3⟩ | ⟨h1, h2, h3⟩ | ⟨h1, h2⟩
    · refine Tr.ff (decide_eq_false (by omega)) (Tr.tt (decide_eq_true h1) ?_)
      rw [decide_eq_true h1, cond_true]
      obtain ⟨s1, s2⟩ := scOk_all h3
      have hn := nmOk_size h2
      rw [sz_list] at hn
      have b := lens_itoa (l := f.scopes) (fun x hx => by have := s1 x hx; omega)
      have a := join_len (f.scopes.map itoa) [44]
      simp only [List.length_map, List.length_singleton] at a
      unfold scTx
      by_cases h0 : f.scopes.length = 0
      · rw [decide_eq_true h0, cond_true, List.append_nil, mkB_of]
        refine Tr.step (fun m => by rw [m_spec_l1Text_l2, decide_eq_false (by omega), cond_false]) ?_
        refine Tr.step (fun m => by rw [m_spec_l1Text_j1, decide_eq_false (by omega), cond_false]) ?_
        exact Tr.step (fun m => by rw [m_spec_l1Text_j4]) Tr.val
      · rw [decide_eq_false h0, cond_false]
        have fin : ∀ acc : List UInt8, acc.length ≤ 2 ^ 50 → Tr (fun m => m_spec_l1Text_j1 m f (mkB acc)) (mkB (acc ++ [125])) := fun acc hacc => by
          refine Tr.step (fun m => by rw [m_spec_l1Text_j1, decide_eq_true (by omega), cond_true]) ?_
          refine Tr.cat (b := [125]) rfl rfl (by simp; omega) ?_
          exact Tr.step (fun m => by rw [m_spec_l1Text_j4]) Tr.val
        -- the first sign is a brace, the others are commas
        cases hs : f.scopes with
        | nil => rw [hs] at h0; exact absurd rfl h0
        | cons x0 xs0 =>
          have g0 : f.scopes[0]? = some x0 := by rw [hs]; rfl
          rw [show (f.name : ByteArray) = mkB f.name.data.toList from (mkB_of _).symm]
          rw [mkB_list]
          have step : ∀ (k : Nat) (y : Int) (acc : List UInt8), f.scopes[k]? = some y → acc.length ≤ 2 ^ 49 → ∀ {w : ByteArray}, Tr (fun m => m_spec_l1Text_l2 m f (mkB (acc ++ (bif decide (k = 0) then [123] else [44]) ++ itoa y)) ((k + 1 : Nat) : Int)) w → Tr (fun m => m_spec_l1Text_l2 m f (mkB acc) (k : Int)) w := fun k y acc hy hacc w hT => by
            have hyb := s1 y (List.mem_of_getElem? hy)
            have hk : k < f.scopes.length := (List.getElem?_eq_some_iff.1 hy).1
            have hil := itoa_len (n := y) (by omega) (by omega)
            have j3 : ∀ sg : List UInt8, sg.length = 1 → sg = (bif decide (k = 0) then [123] else [44]) → Tr (fun m => m_spec_l1Text_j3 m f (mkB acc) (k : Int) (mkB sg)) w := fun sg h1 h2 => by
              refine Tr.step (fun m => by rw [m_spec_l1Text_j3]) ?_
              refine Tr.cat rfl rfl (by omega) ?_
              refine Tr.eq (fun m => by rw [idx_nat hy, Option.bind_some]) ?_
              refine Tr.bind (dec_tr (by omega) (by omega)) ?_
              refine Tr.cat rfl rfl (by simp; omega) ?_
              rw [h2]
              exact Tr.eq (fun m => by rw [succN]) hT
            refine Tr.step (fun m => by rw [m_spec_l1Text_l2, ltN hk, cond_true]) ?_
            by_cases hk0 : k = 0
            · exact Tr.tt (decide_eq_true (by omega)) (j3 [123] rfl (by rw [decide_eq_true hk0]; rfl))
            · exact Tr.ff (decide_eq_false (by omega)) (j3 [44] rfl (by rw [decide_eq_false hk0]; rfl))
          have e : f.name.data.toList ++ ([123] ++ join ((x0 :: xs0).map itoa) [44] ++ [125]) = (f.name.data.toList ++ [123] ++ itoa x0) ++ joinTail [44] (xs0.map itoa) ++ [125] := by rw [List.map_cons, Lib.join_cons]; simp
          rw [e]
          have i0 := itoa_len (n := x0) (by have := s1 x0 (List.mem_of_getElem? g0); omega) (by have := s1 x0 (List.mem_of_getElem? g0); omega)
          refine step 0 x0 _ g0 (by omega) ?_
          rw [decide_eq_true rfl, cond_true]
          rw [hs] at b s2
          rw [List.map_cons, lens_cons] at b
          have key := drop_ind f.scopes (fun k zs => 1 ≤ k → ∀ acc : List UInt8, acc.length + Lib.lens (zs.map itoa) + zs.length ≤ 2 ^ 40 → Tr (fun m => m_spec_l1Text_l2 m f (mkB acc) (k : Int)) (mkB (acc ++ joinTail [44] (zs.map itoa) ++ [125]))) ?_ ?_ 1 (by omega) (Nat.le_refl _) (f.name.data.toList ++ [123] ++ itoa x0) (by rw [hs]; simp only [List.drop_succ_cons, List.drop_zero, List.length_append, List.length_singleton, List.length_cons, List.length_nil] at b s2 ⊢; omega)
          · rw [hs] at key; exact key
          · intro _ acc hacc
            refine Tr.step (fun m => by rw [m_spec_l1Text_l2, ltN_self, cond_false]) ?_
            have := fin acc (by omega)
            rw [show joinTail [44] (([] : List Int).map itoa) = [] from rfl, List.append_nil]; exact this
          · intro k y zs hk hy hd ihk h1k acc hacc
            rw [List.map_cons, lens_cons, List.length_cons] at hacc
            refine step k y acc hy (by omega) ?_
            rw [decide_eq_false (by omega), cond_false, List.map_cons, jt_cons]
            have := ihk (by omega) (acc ++ [44] ++ itoa y) (by simp only [List.length_append, List.length_singleton]; omega)
            rw [show acc ++ ([44] ++ itoa y ++ joinTail [44] (zs.map itoa)) ++ [125] = acc ++ [44] ++ itoa y ++ joinTail [44] (zs.map itoa) ++ [125] by simp]
            exact this
    · refine Tr.tt (decide_eq_true h1) ?_
      rw [decide_eq_false (show ¬ f.kind = 1 by omega), cond_false, decide_eq_true h1, cond_true]
      exact Tr.bind (dec_tr h2 h3) Tr.val
    · refine Tr.ff (decide_eq_false (by omega)) (Tr.ff (decide_eq_false (by omega)) ?_)
      rw [decide_eq_false (show ¬ f.kind = 1 by omega), cond_false, decide_eq_false (show ¬ f.kind = 2 by omega), cond_false]
      have hk := (isOk_kids hok).2
      have hl := Form.ws_len f.kids
      have hj : ∀ l : List Form, (∀ x ∈ l, x ∈ f.kids) → Lib.lens (l.map Form.tx) ≤ 16 * Form.ws l := by
        intro l
        induction l with
        | nil => intro _; simp [Lib.lens]
        | cons x l ihl =>
          intro hx
          have a := ihl (fun y hy => hx y (by simp [hy]))
          have b := tx_len _ x (d - 1) (Nat.le_refl _) (hk x (hx x (by simp)))
          rw [List.map_cons, lens_cons, Form.ws]; omega
      have hjj := hj f.kids (fun x hx => hx)
      have a := join_len (f.kids.map Form.tx) [32]
      simp only [List.length_map, List.length_singleton] at a
      refine loop_sep (xs := f.kids) (f := Form.tx) (sep := [32]) (L := fun m g k => m_spec_l1Text_l5 m f g k) (F := fun m g => (bcat g (⟨#[41]⟩ : ByteArray)).bind fun v35 => some v35) (a0 := [40]) 0 ?_ ?_ (by simp; omega) (Tr.cat (b := [41]) rfl rfl (by simp; omega) Tr.val)
      · intro k x acc hx hacc w hT
        simp only [List.length_singleton] at hacc
        have hkl : k < f.kids.length := (List.getElem?_eq_some_iff.1 hx).1
        have hm := List.mem_of_getElem? hx
        have j6 : ∀ acc2 : List UInt8, acc2 = acc ++ (bif decide (k = 0) then [] else [32]) → acc2.length ≤ acc.length + 1 → Tr (fun m => m_spec_l1Text_j6 m f (k : Int) (mkB acc2)) w := fun acc2 h1 h2 => by
          refine Tr.step (fun m => by rw [m_spec_l1Text_j6, idx_nat hx, Option.bind_some]) ?_
          refine Tr.bind (ih x (d - 1) (by have := Form.ws_mem hm; omega) (by have := Form.ws_mem hm; omega) (hk x hm)) ?_
          refine Tr.cat rfl rfl (by omega) ?_
          rw [h1]; exact Tr.eq (fun m => by rw [succN]) hT
        refine Tr.step (fun m => by rw [m_spec_l1Text_l5, ltN hkl, cond_true]) ?_
        by_cases hk0 : k = 0
        · exact Tr.ff (decide_eq_false (by omega)) (j6 acc (by rw [decide_eq_true hk0, cond_true, List.append_nil]) (by omega))
        · exact Tr.tt (decide_eq_true (by omega)) (Tr.cat (b := [32]) rfl rfl (by simp; omega) (j6 _ (by rw [decide_eq_false hk0, cond_false]) (by simp)))
      · intro acc w hT
        exact Tr.step (fun m => by rw [m_spec_l1Text_l5, ltN_self, cond_false]) hT
theorem specText_tr {f : Form} {d : Nat} (hb : f.w ≤ 2 ^ 30) (h : f.isOk d = true) : Tr (fun m => m_spec_l1Text m f) (mkB f.tx) := specText_n _ f d (Nat.le_refl _) hb h
end Go.Abs
end
