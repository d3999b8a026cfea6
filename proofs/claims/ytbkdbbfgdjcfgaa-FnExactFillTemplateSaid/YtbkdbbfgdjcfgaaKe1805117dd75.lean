/- A part of the proof: what the functions that the law calls answer, as pure values. -/
import Derived.KernelRfl
import Derived.Test.YtbkdbbfgdjcfgaaK00b9e8259e4a
import Derived.Test.YtbkdbbfgdjcfgaaK69e8a0ebd724
import Derived.Test.YtbkdbbfgdjcfgaaKe8177d545ea5
set_option linter.unusedSimpArgs false
set_option linter.unusedVariables false
section
set_option linter.unusedVariables false
namespace Go.Abs
def Tr {α : Type} (F : Nat → Option α) (v : α) : Prop := ∃ n, ∀ m, n ≤ m → F m = some v
theorem Tr.val {α : Type} {v : α} : Tr (fun _ => some v) v := ⟨0, fun _ _ => rfl⟩
theorem Tr.of {α : Type} {F : Nat → Option α} {v : α} (h : ∀ m, F m = some v) : Tr F v := ⟨0, fun m _ => h m⟩
theorem Tr.bind {α β : Type} {f : Nat → Option α} {g : α → Nat → Option β} {v : α} {w : β} (h1 : Tr f v) (h2 : Tr (fun m => g v m) w) : Tr (fun m => (f m).bind fun x => g x m) w := by
  obtain ⟨n1, h1⟩ := h1
  obtain ⟨n2, h2⟩ := h2
  refine ⟨n1 + n2, fun m hm => ?_⟩
  show (f m).bind _ = _
  rw [h1 m (by omega)]
  exact h2 m (by omega)
theorem Tr.step {α : Type} {F G : Nat → Option α} {v : α} (h : ∀ m, F (m + 1) = G m) (hg : Tr G v) : Tr F v := by
  obtain ⟨n, hg⟩ := hg
  refine ⟨n + 1, fun m hm => ?_⟩
  obtain ⟨k, rfl⟩ : ∃ k, m = k + 1 := ⟨m - 1, by omega⟩
  rw [h, hg k (by omega)]
theorem Tr.eq {α : Type} {F G : Nat → Option α} {v : α} (h : ∀ m, F m = G m) (hg : Tr G v) : Tr F v := by
  obtain ⟨n, hg⟩ := hg
  exact ⟨n, fun m hm => by rw [h, hg m hm]⟩
theorem Tr.tt {α : Type} {F G : Nat → Option α} {b : Bool} {v : α} (hb : b = true) (h : Tr F v) : Tr (fun m => bif b then F m else G m) v := by subst hb; exact h
theorem Tr.ff {α : Type} {F G : Nat → Option α} {b : Bool} {v : α} (hb : b = false) (h : Tr G v) : Tr (fun m => bif b then F m else G m) v := by subst hb; exact h
theorem Tr.chk {α : Type} {F : Nat → Option α} {b : Bool} {v : α} (hb : b = true) (h : Tr F v) : Tr (fun m => Abs.chk b (F m)) v := by subst hb; exact h
theorem Tr.idx {α β : Type} {l : List α} {i : Int} {x : α} {g : α → Nat → Option β} {w : β} (hx : idx l i = some x) (h : Tr (fun m => g x m) w) : Tr (fun m => (Abs.idx l i).bind fun y => g y m) w := by
  rw [hx]; exact h
theorem Tr.get {α : Type} {F : Nat → Option α} {v : α} (h : Tr F v) : ∃ n, F n = some v := by
  obtain ⟨n, h⟩ := h; exact ⟨n, h n (Nat.le_refl n)⟩
theorem idx_nat {α : Type} {l : List α} {k : Nat} {x : α} (h : l[k]? = some x) : idx l (k : Int) = some x := by
  unfold idx
  simp [h]
theorem idx_int {α : Type} {l : List α} {i : Int} (h0 : 0 ≤ i) (h1 : i < l.length) : ∃ x, idx l i = some x ∧ x ∈ l := by
  obtain ⟨k, rfl⟩ := Int.eq_ofNat_of_zero_le h0
  have hk : k < l.length := by omega
  exact ⟨l[k], idx_nat (List.getElem?_eq_getElem hk), List.getElem_mem hk⟩
theorem drop_ind {α : Type} (l : List α) (motive : Nat → List α → Prop) (nil : motive l.length [])
    (cons : ∀ k x xs, k < l.length → l[k]? = some x → l.drop k = x :: xs → motive (k + 1) xs → motive k (x :: xs)) : ∀ k, k ≤ l.length → motive k (l.drop k) := by
  have key : ∀ n k, l.length - k = n → k ≤ l.length → motive k (l.drop k) := by
    intro n
    induction n with
    | zero =>
      intro k hk hle
      have : k = l.length := by omega
      subst this
      rw [List.drop_length]; exact nil
    | succ n ih =>
      intro k hk hle
      have hlt : k < l.length := by omega
      have := ih (k + 1) (by omega) (by omega)
      rw [List.drop_eq_getElem_cons hlt]
      exact cons k _ _ hlt (List.getElem?_eq_getElem hlt) (List.drop_eq_getElem_cons hlt) this
  exact fun k hk => key _ k rfl hk
theorem ltN {k n : Nat} (h : k < n) : decide ((k : Int) < (n : Int)) = true := by simpa using h
theorem ltN_self {n : Nat} : decide ((n : Int) < (n : Int)) = false := by simp
theorem succN (k : Nat) : (k : Int) + 1 = ((k + 1 : Nat) : Int) := by simp
theorem w64_in {n : Int} (h : -9223372036854775808 ≤ n ∧ n ≤ 9223372036854775807) : w64 n = n := IntWalk.i64_in n (by omega)
def TQ {α : Type} (F : Nat → Option α) (Q : α → Prop) : Prop := ∃ r, Tr F r ∧ Q r
theorem TQ.val {α : Type} {v : α} {Q : α → Prop} (h : Q v) : TQ (fun _ => some v) Q := ⟨v, Tr.val, h⟩
theorem TQ.bind {α β : Type} {f : Nat → Option α} {g : α → Nat → Option β} {Q : α → Prop} {R : β → Prop} (h1 : TQ f Q) (h2 : ∀ v, Q v → TQ (fun m => g v m) R) : TQ (fun m => (f m).bind fun x => g x m) R := by
  obtain ⟨v, h1, hq⟩ := h1
  obtain ⟨w, h2, hr⟩ := h2 v hq
  exact ⟨w, h1.bind h2, hr⟩
theorem TQ.ev {α β : Type} {f : Nat → Option α} {g : α → Nat → Option β} {v : α} {R : β → Prop} (h1 : Tr f v) (h2 : TQ (fun m => g v m) R) : TQ (fun m => (f m).bind fun x => g x m) R := by
  obtain ⟨w, h2, hr⟩ := h2
  exact ⟨w, h1.bind h2, hr⟩
theorem TQ.step {α : Type} {F G : Nat → Option α} {Q : α → Prop} (h : ∀ m, F (m + 1) = G m) (hg : TQ G Q) : TQ F Q := by
  obtain ⟨v, h1, hq⟩ := hg
  exact ⟨v, Tr.step h h1, hq⟩
theorem TQ.eq {α : Type} {F G : Nat → Option α} {Q : α → Prop} (h : ∀ m, F m = G m) (hg : TQ G Q) : TQ F Q := by
  obtain ⟨v, h1, hq⟩ := hg
  exact ⟨v, Tr.eq h h1, hq⟩
theorem TQ.cond {α : Type} {F G : Nat → Option α} {b : Bool} {Q : α → Prop} (h1 : b = true → TQ F Q) (h2 : b = false → TQ G Q) : TQ (fun m => bif b then F m else G m) Q := by
  cases b
  · exact h2 rfl
  · exact h1 rfl
theorem TQ.chk {α : Type} {F : Nat → Option α} {b : Bool} {Q : α → Prop} (hb : b = true) (h : TQ F Q) : TQ (fun m => Abs.chk b (F m)) Q := by subst hb; exact h
theorem TQ.idx {α β : Type} {l : List α} {i : Int} {g : α → Nat → Option β} {R : β → Prop} (h0 : 0 ≤ i) (h1 : i < l.length) (h : ∀ x, x ∈ l → TQ (fun m => g x m) R) : TQ (fun m => (Abs.idx l i).bind fun y => g y m) R := by
  obtain ⟨x, hx, hm⟩ := idx_int h0 h1
  obtain ⟨w, hw, hr⟩ := h x hm
  exact ⟨w, Tr.idx hx hw, hr⟩
theorem TQ.mono {α : Type} {F : Nat → Option α} {Q R : α → Prop} (h : TQ F Q) (hq : ∀ v, Q v → R v) : TQ F R := by
  obtain ⟨v, h1, h2⟩ := h; exact ⟨v, h1, hq v h2⟩
mutual
def Form.w : Form → Nat
  | .mk _ _ _ scopes kids => 1 + scopes.length + Form.ws kids
def Form.ws : List Form → Nat
  | [] => 0
  | f :: fs => 1 + f.w + Form.ws fs
end
mutual
def Core.w : Core → Nat
  | .mk _ _ _ _ ids data kids => 1 + ids.length + data.w + Core.ws kids
def Core.ws : List Core → Nat
  | [] => 0
  | f :: fs => 1 + f.w + Core.ws fs
end
theorem Form.ws_len : ∀ (l : List Form), l.length ≤ Form.ws l
  | [] => by simp
  | f :: fs => by have := Form.ws_len fs; rw [Form.ws, List.length_cons]; omega
theorem Core.ws_len : ∀ (l : List Core), l.length ≤ Core.ws l
  | [] => by simp
  | f :: fs => by have := Core.ws_len fs; rw [Core.ws, List.length_cons]; omega
theorem Form.ws_mem : ∀ {l : List Form} {x : Form}, x ∈ l → x.w < Form.ws l
  | f :: fs, x, h => by
    rw [Form.ws]
    rcases List.mem_cons.1 h with rfl | h
    · omega
    · have := Form.ws_mem h; omega
theorem Core.ws_mem : ∀ {l : List Core} {x : Core}, x ∈ l → x.w < Core.ws l
  | f :: fs, x, h => by
    rw [Core.ws]
    rcases List.mem_cons.1 h with rfl | h
    · omega
    · have := Core.ws_mem h; omega
theorem Form.w_kids (f : Form) : Form.ws f.kids + f.scopes.length + 1 = f.w := by obtain ⟨a, b, c, d, e⟩ := f; simp only [Form.w, Form.kids, Form.scopes]; omega
theorem Core.w_kids (f : Core) : Core.ws f.kids + f.ids.length + f.data.w + 1 = f.w := by obtain ⟨a, b, c, d, e, g, h⟩ := f; simp only [Core.w, Core.kids, Core.ids, Core.data]; omega
structure OkRd (r : l15Rd) (K : Int) : Prop where
  len : r.b.length ≤ 2000
  byte : ∀ x ∈ r.b, 0 ≤ x ∧ x < 256
  lo : 0 ≤ r.p
  hi : r.p ≤ K
theorem OkRd.mono {r : l15Rd} {K K' : Int} (h : OkRd r K) (hk : K ≤ K') : OkRd r K' := ⟨h.len, h.byte, h.lo, by have := h.hi; omega⟩
end Go.Abs
end
section
section
set_option linter.unusedVariables false
set_option linter.unusedSimpArgs false
namespace Go.Abs
noncomputable def same {α : Type} (a b : α) : Bool := @decide (a = b) (Classical.propDecidable _)
theorem same_iff {α : Type} {a b : α} : same a b = true ↔ a = b := by unfold same; exact @decide_eq_true_iff _ (Classical.propDecidable _)
theorem same_self {α : Type} (a : α) : same a a = true := same_iff.2 rfl
theorem same_ne {α : Type} {a b : α} (h : a ≠ b) : same a b = false := by
  rw [← Bool.not_eq_true, same_iff]; exact h
theorem same_dec {α : Type} (a b : α) [inst : Decidable (a = b)] : same a b = decide (a = b) := by
  rw [Bool.eq_iff_iff, same_iff, decide_eq_true_iff]
theorem same_cons {α : Type} (a b : α) (xs ys : List α) : same (a :: xs) (b :: ys) = (same a b && same xs ys) := by
  rw [Bool.eq_iff_iff, Bool.and_eq_true, same_iff, same_iff, same_iff, List.cons.injEq]
theorem drop_get {α : Type} {l : List α} {k : Nat} {x : α} (h : l[k]? = some x) : l.drop k = x :: l.drop (k + 1) := by
  obtain ⟨hk, rfl⟩ := List.getElem?_eq_some_iff.1 h
  exact List.drop_eq_getElem_cons hk
theorem loop_eq {α : Type} {xs ys : List α} (hl : xs.length = ys.length) {L : Nat → Int → Option Bool} {E : Nat → α → α → Option Bool}
    (h0 : ∀ m k, L (m + 1) k = bif decide (k < (xs.length : Int)) then (idx xs k).bind fun a => (idx ys k).bind fun b => (E m a b).bind fun v => bif !v then some false else L m (k + 1) else some true)
    (hE : ∀ a ∈ xs, ∀ b ∈ ys, Tr (fun m => E m a b) (same a b)) : Tr (fun m => L m 0) (same xs ys) := by
  have key := drop_ind xs (fun k zs => Tr (fun m => L m (k : Int)) (same zs (ys.drop k))) ?_ ?_ 0 (Nat.zero_le _)
  · simpa using key
  · rw [hl, List.drop_length, same_self]
    exact Tr.step (fun m => by rw [h0, hl, ltN_self, cond_false]) Tr.val
  · intro k x zs hk hx hd ih
    have hk' : k < ys.length := by omega
    have hy : ys[k]? = some ys[k] := List.getElem?_eq_getElem hk'
    rw [drop_get hy, same_cons]
    refine Tr.step (fun m => by rw [h0, ltN hk, cond_true, idx_nat hx, Option.bind_some, idx_nat hy, Option.bind_some, succN]) ?_
    refine Tr.bind (hE x (List.mem_of_getElem? hx) ys[k] (List.getElem_mem hk')) ?_
    cases h : same x ys[k] with
    | false => exact Tr.tt rfl Tr.val
    | true => exact Tr.ff rfl ih
theorem loop_eqI {α : Type} [DecidableEq α] {xs ys : List α} (hl : xs.length = ys.length) {L : Nat → Int → Option Bool}
    (h0 : ∀ m k, L (m + 1) k = bif decide (k < (xs.length : Int)) then (idx xs k).bind fun a => (idx ys k).bind fun b => bif decide (a ≠ b) then some false else L m (k + 1) else some true) : Tr (fun m => L m 0) (same xs ys) :=
  loop_eq (E := fun _ a b => some (decide (a = b))) hl (fun m k => by
    rw [h0]; congr 1; congr 1; funext a; congr 1; funext b; rw [Option.bind_some]; congr 1; simp) (fun a _ b _ => Tr.of (fun _ => by rw [same_dec]))
def alls {α : Type} (D : α → Bool) : List α → Bool
  | [] => true
  | x :: xs => D x && alls D xs
theorem alls_iff {α : Type} {D : α → Bool} : ∀ {l : List α}, alls D l = true ↔ ∀ x ∈ l, D x = true
  | [] => by simp [alls]
  | x :: xs => by rw [alls, Bool.and_eq_true, alls_iff]; simp
theorem loop_all {α : Type} {xs : List α} {c : Bool} {D : α → Bool} {L : Nat → Int → Option Bool} {E : Nat → α → Option Bool}
    (h0 : ∀ m k, L (m + 1) k = bif decide (k < (xs.length : Int)) then (idx xs k).bind fun a => (E m a).bind fun v => bif !v then some false else L m (k + 1) else some c)
    (hE : ∀ a ∈ xs, Tr (fun m => E m a) (D a)) : Tr (fun m => L m 0) (alls D xs && c) := by
  have key := drop_ind xs (fun k zs => Tr (fun m => L m (k : Int)) (alls D zs && c)) ?_ ?_ 0 (Nat.zero_le _)
  · simpa using key
  · exact Tr.step (fun m => by rw [h0, ltN_self, cond_false]) (by simpa [alls] using Tr.val)
  · intro k x zs hk hx hd ih
    refine Tr.step (fun m => by rw [h0, ltN hk, cond_true, idx_nat hx, Option.bind_some, succN]) ?_
    refine Tr.bind (hE x (List.mem_of_getElem? hx)) ?_
    rw [alls]
    cases h : D x with
    | false => exact Tr.tt rfl Tr.val
    | true => exact Tr.ff rfl (by simpa using ih)
def fnd {α : Type} (D : α → Bool) : List α → Nat → Int
  | [], _ => -1
  | x :: xs, k => bif D x then (k : Int) else fnd D xs (k + 1)
theorem fnd_ge {α : Type} {D : α → Bool} : ∀ {l : List α} {k : Nat}, (0 ≤ fnd D l k) ↔ ∃ x ∈ l, D x = true
  | [], k => by simp [fnd]
  | x :: xs, k => by
    rw [fnd]
    cases h : D x with
    | true => simp [h]
    | false => rw [cond_false, fnd_ge]; simp [h]
theorem loop_find {α : Type} {xs : List α} {D : α → Bool} {L : Nat → Int → Option Int} {E : Nat → α → Option Bool}
    (h0 : ∀ m k, L (m + 1) k = bif decide (k < (xs.length : Int)) then (idx xs k).bind fun a => (E m a).bind fun v => bif v then some k else L m (k + 1) else some (-1))
    (hE : ∀ a ∈ xs, Tr (fun m => E m a) (D a)) : Tr (fun m => L m 0) (fnd D xs 0) := by
  have key := drop_ind xs (fun k zs => Tr (fun m => L m (k : Int)) (fnd D zs k)) ?_ ?_ 0 (Nat.zero_le _)
  · simpa using key
  · exact Tr.step (fun m => by rw [h0, ltN_self, cond_false]; rfl) Tr.val
  · intro k x zs hk hx hd ih
    refine Tr.step (fun m => by rw [h0, ltN hk, cond_true, idx_nat hx, Option.bind_some, succN]) ?_
    refine Tr.bind (hE x (List.mem_of_getElem? hx)) ?_
    rw [fnd]
    cases h : D x with
    | false => exact Tr.ff rfl ih
    | true => exact Tr.tt rfl Tr.val
theorem loop_copy {α β : Type} {xs : List α} {z : β} {f : α → β} {L : Nat → Int → List β → Option (List β)} {E : Nat → α → Option β}
    (h0 : ∀ m k acc, L (m + 1) k acc = bif decide (k < (xs.length : Int)) then (idx xs k).bind fun a => (E m a).bind fun v => (idx acc k).bind fun _ => L m (k + 1) (acc.set k.toNat v) else some acc)
    (hE : ∀ a ∈ xs, Tr (fun m => E m a) (f a)) : Tr (fun m => L m 0 (List.replicate (xs.length : Int).toNat z)) (xs.map f) := by
  have key := drop_ind xs (fun k zs => Tr (fun m => L m (k : Int) ((xs.take k).map f ++ List.replicate zs.length z)) (xs.map f)) ?_ ?_ 0 (Nat.zero_le _)
  · simpa using key
  · exact Tr.step (fun m => by rw [h0, ltN_self, cond_false]; simp) Tr.val
  · intro k x zs hk hx hd ih
    have hlen : ((xs.take k).map f ++ List.replicate (x :: zs).length z)[k]? = some z := by
      rw [List.getElem?_append_right (by simp; omega)]
      simp [Nat.min_eq_left (Nat.le_of_lt hk)]
    refine Tr.step (fun m => by rw [h0, ltN hk, cond_true, idx_nat hx, Option.bind_some, idx_nat hlen, succN]) ?_
    refine Tr.bind (hE x (List.mem_of_getElem? hx)) ?_
    refine Tr.eq (fun m => by rw [Option.bind_some]) ?_
    have e : ((xs.take k).map f ++ List.replicate (x :: zs).length z).set (k : Int).toNat (f x) = (xs.take (k + 1)).map f ++ List.replicate zs.length z := by
      have h1 : (xs.take (k + 1)) = xs.take k ++ [x] := by
        rw [List.take_add_one, hx]; rfl
      have hlk : ((xs.take k).map f).length = k := by simp; omega
      rw [h1, Int.toNat_natCast, List.set_append_right k (f x) (by omega), hlk, Nat.sub_self]
      simp [List.replicate_succ]
    rw [e]; exact ih
end Go.Abs
end
section
set_option linter.unusedVariables false
set_option linter.unusedSimpArgs false
namespace Go.Abs
mutual
def Hit.w : Hit → Nat
  | .mk name _ one many => 1 + name.w + one.w + Hit.ws many
def Hit.ws : List Hit → Nat
  | [] => 0
  | f :: fs => 1 + f.w + Hit.ws fs
end
theorem Hit.ws_len : ∀ (l : List Hit), l.length ≤ Hit.ws l
  | [] => by simp
  | f :: fs => by have := Hit.ws_len fs; rw [Hit.ws, List.length_cons]; omega
theorem Hit.ws_mem : ∀ {l : List Hit} {x : Hit}, x ∈ l → x.w < Hit.ws l
  | f :: fs, x, h => by
    rw [Hit.ws]
    rcases List.mem_cons.1 h with rfl | h
    · omega
    · have := Hit.ws_mem h; omega
theorem Hit.w_parts (f : Hit) : Hit.ws f.many + f.name.w + f.one.w + 1 = f.w := by obtain ⟨a, b, c, d⟩ := f; simp only [Hit.w, Hit.many, Hit.name, Hit.one]; omega
theorem Form.w_pos (f : Form) : 1 ≤ f.w := by have := f.w_kids; omega
theorem same_len {α : Type} {a b : List α} (h : a.length ≠ b.length) : same a b = false := same_ne (fun e => h (by rw [e]))
theorem form_same (a b : Form) : same a b = (decide (a.kind = b.kind) && (decide (a.name = b.name) && (decide (a.n = b.n) && (same a.scopes b.scopes && same a.kids b.kids)))) := by
  obtain ⟨k, nm, n, sc, ki⟩ := a
  obtain ⟨k', nm', n', sc', ki'⟩ := b
  show _ = (decide (k = k') && (decide (nm = nm') && (decide (n = n') && (same sc sc' && same ki ki'))))
  rw [Bool.eq_iff_iff]
  simp only [Bool.and_eq_true, same_iff, decide_eq_true_eq, Form.mk.injEq]
theorem hit_same (a b : Hit) : same a b = (same a.name b.name && (decide (a.depth = b.depth) && (same a.one b.one && same a.many b.many))) := by
  obtain ⟨k, nm, n, sc⟩ := a
  obtain ⟨k', nm', n', sc'⟩ := b
  show _ = (same k k' && (decide (nm = nm') && (same n n' && same sc sc')))
  rw [Bool.eq_iff_iff]
  simp only [Bool.and_eq_true, same_iff, decide_eq_true_eq, Hit.mk.injEq]
theorem lenB {a b : Nat} (h : a ≠ b) : decide ((a : Int) ≠ (b : Int)) = true := decide_eq_true (by omega)
theorem lenE {a b : Nat} (h : a = b) : decide ((a : Int) ≠ (b : Int)) = false := decide_eq_false (by omega)
theorem slEqual_tr (a b : List Int) : Tr (fun m => m_slices_Equal_int m a b) (same a b) := by
  refine Tr.eq (fun m => by unfold m_slices_Equal_int; rfl) ?_
  by_cases h : a.length = b.length
  · exact Tr.ff (lenE h) (loop_eqI h (L := fun m k => m_slices_Equal_int_l1 m a b k) (fun m k => by rw [m_slices_Equal_int_l1]))
  · rw [same_len h]; exact Tr.tt (lenB h) Tr.val
theorem l1Ints_tr (a b : List Int) : Tr (fun m => m_spec_l1Ints m a b) (same a b) := by
  refine Tr.eq (fun m => by unfold m_spec_l1Ints; rfl) ?_
  by_cases h : a.length = b.length
  · exact Tr.ff (lenE h) (loop_eqI h (L := fun m k => m_spec_l1Ints_l1 m a b k) (fun m k => by rw [m_spec_l1Ints_l1]))
  · rw [same_len h]; exact Tr.tt (lenB h) Tr.val
theorem eqIntS_tr (a b : List Int) : Tr (fun m => m_laws_eqIntS m a b) (same a b) := by
  refine Tr.eq (fun m => by unfold m_laws_eqIntS; rfl) ?_
  by_cases h : a.length = b.length
  · exact Tr.ff (lenE h) (loop_eqI h (L := fun m k => m_laws_eqIntS_l1 m a b k) (fun m k => by rw [m_laws_eqIntS_l1]))
  · rw [same_len h]; exact Tr.tt (lenB h) Tr.val
theorem implFormSame_n : ∀ (n : Nat) (a b : Form), a.w ≤ n → Tr (fun m => m_impl_FormSame m a b) (same a b) := by
  intro n
  induction n with
  | zero => intro a b h; have := a.w_pos; omega
  | succ n ih =>
    intro a b h
    have hw := a.w_kids
    rw [form_same]
    refine Tr.step (fun m => by rw [m_impl_FormSame]) ?_
    cases decide (a.kind = b.kind) with
    | false => exact Tr.ff rfl Tr.val
    | true =>
    refine Tr.tt rfl ?_
    cases decide (a.name = b.name) with
    | false => exact Tr.ff rfl Tr.val
    | true =>
    refine Tr.tt rfl ?_
    cases decide (a.n = b.n) with
    | false => exact Tr.ff rfl Tr.val
    | true =>
    refine Tr.tt rfl (Tr.bind (slEqual_tr _ _) ?_)
    cases same a.scopes b.scopes with
    | false => exact Tr.ff rfl Tr.val
    | true =>
    refine Tr.tt rfl (Tr.bind (v := same a.kids b.kids) (Tr.step (fun m => by rw [m_slices_EqualFunc_Form_FormSame]) ?_) Tr.val)
    by_cases hl : a.kids.length = b.kids.length
    · exact Tr.ff (lenE hl) (loop_eq hl (L := fun m k => m_slices_EqualFunc_Form_FormSame_l1 m a.kids b.kids k) (E := fun m x y => m_impl_FormSame m x y) (fun m k => by rw [m_slices_EqualFunc_Form_FormSame_l1]) (fun x hx y _ => ih x y (by have := Form.ws_mem hx; omega)))
    · rw [same_len hl]; exact Tr.tt (lenB hl) Tr.val
theorem implFormSame_tr (a b : Form) : Tr (fun m => m_impl_FormSame m a b) (same a b) := implFormSame_n _ a b (Nat.le_refl _)
theorem specFormSame_n : ∀ (n : Nat) (a b : Form), a.w ≤ n → Tr (fun m => m_spec_FormSame m a b) (same a b) := by
  intro n
  induction n with
  | zero => intro a b h; have := a.w_pos; omega
  | succ n ih =>
    intro a b h
    have hw := a.w_kids
    rw [form_same]
    refine Tr.step (fun m => by rw [m_spec_FormSame]) ?_
    by_cases h1 : a.kind = b.kind
    case neg => rw [decide_eq_false h1]; exact Tr.tt (by simpa using h1) Tr.val
    rw [decide_eq_true h1]
    refine Tr.ff (by simpa using h1) ?_
    by_cases h2 : a.name = b.name
    case neg => rw [decide_eq_false h2]; exact Tr.tt (by simpa using h2) Tr.val
    rw [decide_eq_true h2]
    refine Tr.ff (by simpa using h2) ?_
    by_cases h3 : a.n = b.n
    case neg => rw [decide_eq_false h3]; exact Tr.tt (by simpa using h3) Tr.val
    rw [decide_eq_true h3]
    refine Tr.ff (by simpa using h3) (Tr.bind (l1Ints_tr _ _) ?_)
    cases same a.scopes b.scopes with
    | false => exact Tr.tt rfl Tr.val
    | true =>
    refine Tr.ff rfl ?_
    by_cases hl : a.kids.length = b.kids.length
    · exact Tr.ff (lenE hl) (loop_eq hl (L := fun m k => m_spec_FormSame_l1 m a b k) (E := fun m x y => m_spec_FormSame m x y) (fun m k => by rw [m_spec_FormSame_l1]) (fun x hx y _ => ih x y (by have := Form.ws_mem hx; omega)))
    · rw [same_len hl]; exact Tr.tt (lenB hl) Tr.val
theorem specFormSame_tr (a b : Form) : Tr (fun m => m_spec_FormSame m a b) (same a b) := specFormSame_n _ a b (Nat.le_refl _)
theorem eqForm_n : ∀ (n : Nat) (a b : Form), a.w ≤ n → Tr (fun m => m_laws_eqForm m a b) (same a b) := by
  intro n
  induction n with
  | zero => intro a b h; have := a.w_pos; omega
  | succ n ih =>
    intro a b h
    have hw := a.w_kids
    rw [form_same]
    refine Tr.step (fun m => by rw [m_laws_eqForm]) ?_
    by_cases h1 : a.kind = b.kind
    case neg => rw [decide_eq_false h1]; exact Tr.tt (by simpa using h1) Tr.val
    rw [decide_eq_true h1]
    refine Tr.ff (by simpa using h1) ?_
    by_cases h2 : a.name = b.name
    case neg => rw [decide_eq_false h2]; exact Tr.tt (by simpa using h2) Tr.val
    rw [decide_eq_true h2]
    refine Tr.ff (by simpa using h2) ?_
    by_cases h3 : a.n = b.n
    case neg => rw [decide_eq_false h3]; exact Tr.tt (by simpa using h3) Tr.val
    rw [decide_eq_true h3]
    refine Tr.ff (by simpa using h3) (Tr.bind (eqIntS_tr _ _) ?_)
    cases same a.scopes b.scopes with
    | false => exact Tr.tt rfl Tr.val
    | true =>
    refine Tr.ff rfl (Tr.bind (v := same a.kids b.kids) (Tr.step (fun m => by rw [m_laws_eqFormS]) ?_) ?_)
    · by_cases hl : a.kids.length = b.kids.length
      · exact Tr.ff (lenE hl) (loop_eq hl (L := fun m k => m_laws_eqFormS_l1 m a.kids b.kids k) (E := fun m x y => m_laws_eqForm m x y) (fun m k => by rw [m_laws_eqFormS_l1]) (fun x hx y _ => ih x y (by have := Form.ws_mem hx; omega)))
      · rw [same_len hl]; exact Tr.tt (lenB hl) Tr.val
    · cases same a.kids b.kids with
      | false => exact Tr.tt rfl Tr.val
      | true => exact Tr.ff rfl Tr.val
theorem eqForm_tr (a b : Form) : Tr (fun m => m_laws_eqForm m a b) (same a b) := eqForm_n _ a b (Nat.le_refl _)
theorem eqHitS_of {l l' : List Hit} (ih : ∀ x ∈ l, ∀ y, Tr (fun m => m_laws_eqHit m x y) (same x y)) : Tr (fun m => m_laws_eqHitS m l l') (same l l') := by
  refine Tr.step (fun m => by rw [m_laws_eqHitS]) ?_
  by_cases hl : l.length = l'.length
  · exact Tr.ff (lenE hl) (loop_eq hl (L := fun m k => m_laws_eqHitS_l1 m l l' k) (E := fun m x y => m_laws_eqHit m x y) (fun m k => by rw [m_laws_eqHitS_l1]) (fun x hx y _ => ih x hx y))
  · rw [same_len hl]; exact Tr.tt (lenB hl) Tr.val
theorem eqHit_n : ∀ (n : Nat) (a b : Hit), a.w ≤ n → Tr (fun m => m_laws_eqHit m a b) (same a b) := by
  intro n
  induction n with
  | zero => intro a b h; have := a.w_parts; omega
  | succ n ih =>
    intro a b h
    have hw := a.w_parts
    rw [hit_same]
    refine Tr.step (fun m => by rw [m_laws_eqHit]) (Tr.bind (eqForm_tr _ _) ?_)
    cases same a.name b.name with
    | false => exact Tr.tt rfl Tr.val
    | true =>
    refine Tr.ff rfl ?_
    by_cases h2 : a.depth = b.depth
    case neg => rw [decide_eq_false h2]; exact Tr.tt (by simpa using h2) Tr.val
    rw [decide_eq_true h2]
    refine Tr.ff (by simpa using h2) (Tr.bind (eqForm_tr _ _) ?_)
    cases same a.one b.one with
    | false => exact Tr.tt rfl Tr.val
    | true =>
    refine Tr.ff rfl (Tr.bind (eqHitS_of (fun x hx y => ih x y (by have := Hit.ws_mem hx; omega))) ?_)
    cases same a.many b.many with
    | false => exact Tr.tt rfl Tr.val
    | true => exact Tr.ff rfl Tr.val
theorem eqHitS_tr (a b : List Hit) : Tr (fun m => m_laws_eqHitS m a b) (same a b) := eqHitS_of (fun x _ y => eqHit_n _ x y (Nat.le_refl _))
theorem toIntS_tr (l : List Int) (h : l.length ≤ 2 ^ 36) : Tr (fun m => m_laws_toIntS m l) l := by
  refine Tr.eq (fun m => by unfold m_laws_toIntS; rfl) (Tr.chk (by simp; omega) ?_)
  have := loop_copy (xs := l) (z := (0 : Int)) (f := fun x => x) (L := fun m k acc => m_laws_toIntS_l1 m l k acc) (E := fun _ a => some a) (fun m k acc => by rw [m_laws_toIntS_l1]; rfl) (fun a _ => Tr.val)
  simpa using this
theorem toForm_n : ∀ (n : Nat) (f : Form), f.w ≤ n → f.w ≤ 2 ^ 36 → Tr (fun m => m_laws_toForm m f) f := by
  intro n
  induction n with
  | zero => intro a h; have := a.w_pos; omega
  | succ n ih =>
    intro f h hb
    have hw := f.w_kids
    have hl := Form.ws_len f.kids
    refine Tr.step (fun m => by rw [m_laws_toForm]) (Tr.bind (toIntS_tr _ (by omega)) (Tr.bind (v := f.kids) ?_ ?_))
    · refine Tr.step (fun m => by rw [m_laws_toFormS]) (Tr.chk (by simp; omega) ?_)
      have := loop_copy (xs := f.kids) (z := Form.mk 0 (⟨#[]⟩ : ByteArray) 0 ([] : List Int) ([] : List Form)) (f := fun x => x) (L := fun m k acc => m_laws_toFormS_l1 m f.kids k acc) (E := fun m a => m_laws_toForm m a) (fun m k acc => by rw [m_laws_toFormS_l1]) (fun a ha => ih a (by have := Form.ws_mem ha; omega) (by have := Form.ws_mem ha; omega))
      simpa using this
    · obtain ⟨a, b, c, d, e⟩ := f; exact Tr.val
theorem toForm_tr (f : Form) (hb : f.w ≤ 2 ^ 36) : Tr (fun m => m_laws_toForm m f) f := toForm_n _ f (Nat.le_refl _) hb
theorem toHitS_of {l : List Hit} (hb : Hit.ws l ≤ 2 ^ 36) (ih : ∀ x ∈ l, Tr (fun m => m_laws_toHit m x) x) : Tr (fun m => m_laws_toHitS m l) l := by
  have hl := Hit.ws_len l
  refine Tr.step (fun m => by rw [m_laws_toHitS]) (Tr.chk (by simp; omega) ?_)
  have := loop_copy (xs := l) (z := Hit.mk (Form.mk 0 (⟨#[]⟩ : ByteArray) 0 ([] : List Int) ([] : List Form)) 0 (Form.mk 0 (⟨#[]⟩ : ByteArray) 0 ([] : List Int) ([] : List Form)) ([] : List Hit)) (f := fun x => x) (L := fun m k acc => m_laws_toHitS_l1 m l k acc) (E := fun m a => m_laws_toHit m a) (fun m k acc => by rw [m_laws_toHitS_l1]) ih
  simpa using this
theorem toHit_n : ∀ (n : Nat) (f : Hit), f.w ≤ n → f.w ≤ 2 ^ 36 → Tr (fun m => m_laws_toHit m f) f := by
  intro n
  induction n with
  | zero => intro a h; have := a.w_parts; omega
  | succ n ih =>
    intro f h hb
    have hw := f.w_parts
    refine Tr.step (fun m => by rw [m_laws_toHit]) (Tr.bind (toForm_tr f.name (by omega)) (Tr.bind (toForm_tr f.one (by omega)) (Tr.bind (toHitS_of (l := f.many) (by omega) (fun x hx => ih x (by have := Hit.ws_mem hx; omega) (by have := Hit.ws_mem hx; omega))) ?_)))
    obtain ⟨a, b, c, d⟩ := f; exact Tr.val
theorem toHitS_tr (l : List Hit) (hb : Hit.ws l ≤ 2 ^ 36) : Tr (fun m => m_laws_toHitS m l) l := toHitS_of hb (fun x hx => toHit_n _ x (Nat.le_refl _) (by have := Hit.ws_mem hx; omega))
end Go.Abs
end
section
set_option linter.unusedVariables false
set_option linter.unusedSimpArgs false
namespace Go.Abs
mutual
def Form.fit : Form → Prop
  | .mk _ name _ scopes kids => name.size ≤ 9223372036854775807 ∧ scopes.length ≤ 9223372036854775807 ∧ kids.length ≤ 9223372036854775807 ∧ Form.fits kids
def Form.fits : List Form → Prop
  | [] => True
  | f :: fs => f.fit ∧ Form.fits fs
end
mutual
def Hit.fit : Hit → Prop
  | .mk name _ one many => name.fit ∧ one.fit ∧ many.length ≤ 9223372036854775807 ∧ Hit.fits many
def Hit.fits : List Hit → Prop
  | [] => True
  | f :: fs => f.fit ∧ Hit.fits fs
end
theorem Form.fits_mem : ∀ {l : List Form} {x : Form}, Form.fits l → x ∈ l → x.fit
  | f :: fs, x, h, hx => by
    rw [Form.fits] at h
    rcases List.mem_cons.1 hx with rfl | hx
    · exact h.1
    · exact Form.fits_mem h.2 hx
theorem Hit.fits_mem : ∀ {l : List Hit} {x : Hit}, Hit.fits l → x ∈ l → x.fit
  | f :: fs, x, h, hx => by
    rw [Hit.fits] at h
    rcases List.mem_cons.1 hx with rfl | hx
    · exact h.1
    · exact Hit.fits_mem h.2 hx
theorem Form.fit.parts {f : Form} (h : f.fit) : f.name.size ≤ 9223372036854775807 ∧ f.scopes.length ≤ 9223372036854775807 ∧ f.kids.length ≤ 9223372036854775807 ∧ Form.fits f.kids := by
  obtain ⟨a, b, c, d, e⟩ := f; rw [Form.fit] at h; exact h
theorem Hit.fit.parts {f : Hit} (h : f.fit) : f.name.fit ∧ f.one.fit ∧ f.many.length ≤ 9223372036854775807 ∧ Hit.fits f.many := by
  obtain ⟨a, b, c, d⟩ := f; rw [Hit.fit] at h; exact h
mutual
def Form.wt : Form → Nat
  | .mk _ name _ scopes kids => name.size + scopes.length + Form.wts kids
def Form.wts : List Form → Nat
  | [] => 0
  | f :: fs => 1 + f.wt + Form.wts fs
end
mutual
def Hit.wt : Hit → Nat
  | .mk name _ one many => name.wt + one.wt + Hit.wts many
def Hit.wts : List Hit → Nat
  | [] => 0
  | f :: fs => 1 + f.wt + Hit.wts fs
end
theorem Form.wt_parts (f : Form) : f.wt = f.name.size + f.scopes.length + Form.wts f.kids := by obtain ⟨a, b, c, d, e⟩ := f; rw [Form.wt]; rfl
theorem Hit.wt_parts (f : Hit) : f.wt = f.name.wt + f.one.wt + Hit.wts f.many := by obtain ⟨a, b, c, d⟩ := f; rw [Hit.wt]; rfl
mutual
theorem Form.w_wt : ∀ f : Form, f.w ≤ 1 + 2 * f.wt
  | .mk a b c d e => by
    have := Form.ws_wts e
    rw [Form.w, Form.wt]; omega
theorem Form.ws_wts : ∀ l : List Form, Form.ws l ≤ 2 * Form.wts l
  | [] => by simp [Form.ws]
  | f :: fs => by
    have h1 := Form.w_wt f
    have h2 := Form.ws_wts fs
    rw [Form.ws, Form.wts]; omega
end
mutual
theorem Hit.w_wt : ∀ f : Hit, f.w ≤ 3 + 4 * f.wt
  | .mk a b c d => by
    have := Hit.ws_wts d
    have h1 := Form.w_wt a
    have h2 := Form.w_wt c
    rw [Hit.w, Hit.wt]; omega
theorem Hit.ws_wts : ∀ l : List Hit, Hit.ws l ≤ 4 * Hit.wts l
  | [] => by simp [Hit.ws]
  | f :: fs => by
    have h1 := Hit.w_wt f
    have h2 := Hit.ws_wts fs
    rw [Hit.ws, Hit.wts]; omega
end
theorem geZ {a : Int} (h : 0 ≤ a) : decide (a < 0) = false := decide_eq_false (by omega)
def Left (v : Int) (n : Nat) (r : Int) : Prop := r = -1 ∨ (0 ≤ r ∧ r = v - n)
theorem szIntS_tq (l : List Int) (v : Int) (hl : l.length ≤ 9223372036854775807) (h0 : 0 ≤ v) (h1 : v ≤ 2 ^ 40) : TQ (fun m => m_laws_szIntS m l v) (Left v l.length) := by
  refine TQ.eq (fun m => by unfold m_laws_szIntS; rw [w64_in (by omega)]) ?_
  exact TQ.cond (fun _ => TQ.val (.inl rfl)) (fun h => TQ.val (.inr ⟨by simpa using h, rfl⟩))
theorem szForm_n : ∀ (n : Nat) (f : Form) (v : Int), f.w ≤ n → f.fit → 0 ≤ v → v ≤ 2 ^ 40 → TQ (fun m => m_laws_szForm m f v) (Left v f.wt) := by
  intro n
  induction n with
  | zero => intro a v h; have := a.w_pos; omega
  | succ n ih =>
    intro f v h hf h0 h1
    obtain ⟨f1, f2, f3, f4⟩ := hf.parts
    have hw := f.w_kids
    have hwt := f.wt_parts
    refine TQ.step (fun m => by rw [m_laws_szForm, w64_in (by omega)]) ?_
    refine TQ.cond (fun _ => TQ.val (.inl rfl)) (fun h => ?_)
    replace h : 0 ≤ v - (f.name.size : Int) := by simpa using h
    refine TQ.bind (szIntS_tq _ _ f2 h (by omega)) (fun v2 h2 => ?_)
    rcases h2 with rfl | ⟨h2, rfl⟩
    · exact TQ.cond (fun _ => TQ.val (.inl rfl)) (fun h => absurd h (by decide))
    refine TQ.cond (fun h => absurd h (by rw [geZ h2]; decide)) (fun _ => ?_)
    refine TQ.bind (Q := Left (v - f.name.size - f.scopes.length) (Form.wts f.kids)) ?_ (fun v4 h4 => ?_)
    · refine TQ.step (fun m => by rw [m_laws_szFormS, w64_in (by omega)]) ?_
      refine TQ.cond (fun _ => TQ.val (.inl rfl)) (fun h => ?_)
      replace h : 0 ≤ v - (f.name.size : Int) - f.scopes.length - f.kids.length := by simpa using h
      have key := drop_ind f.kids (fun k zs => ∀ g : Int, 0 ≤ g → g ≤ 2 ^ 40 → TQ (fun m => m_laws_szFormS_l1 m f.kids g (k : Int)) (fun r => r = -1 ∨ (0 ≤ r ∧ r = g - Form.wts zs + zs.length))) ?_ ?_ 0 (Nat.zero_le _) _ h (by omega)
      · refine TQ.mono (by simpa using key) (fun r hr => ?_)
        rcases hr with hr | ⟨hr, he⟩
        · exact .inl hr
        · exact .inr ⟨hr, by rw [he]; omega⟩
      · intro g hg _
        exact TQ.step (fun m => by rw [m_laws_szFormS_l1, ltN_self, cond_false]) (TQ.val (.inr ⟨hg, by simp [Form.wts]⟩))
      · intro k x zs hk hx hd ihk g hg hg1
        refine TQ.step (fun m => by rw [m_laws_szFormS_l1, ltN hk, cond_true, idx_nat hx, Option.bind_some, succN]) ?_
        have hm := List.mem_of_getElem? hx
        refine TQ.bind (ih x g (by have := Form.ws_mem hm; omega) (Form.fits_mem f4 hm) hg hg1) (fun r hr => ?_)
        rcases hr with rfl | ⟨hr, rfl⟩
        · exact TQ.cond (fun _ => TQ.val (.inl rfl)) (fun h => absurd h (by decide))
        refine TQ.cond (fun h => absurd h (by rw [geZ hr]; decide)) (fun _ => ?_)
        refine TQ.mono (ihk _ hr (by omega)) (fun r hr => ?_)
        rcases hr with hr | ⟨hr, he⟩
        · exact .inl hr
        · exact .inr ⟨hr, by rw [he, Form.wts, List.length_cons]; omega⟩
    · rcases h4 with rfl | ⟨h4, rfl⟩
      · exact TQ.cond (fun _ => TQ.val (.inl rfl)) (fun h => absurd h (by decide))
      refine TQ.cond (fun h => absurd h (by rw [geZ h4]; decide)) (fun _ => TQ.val (.inr ⟨h4, by omega⟩))
theorem szForm_tq (f : Form) (v : Int) (hf : f.fit) (h0 : 0 ≤ v) (h1 : v ≤ 2 ^ 40) : TQ (fun m => m_laws_szForm m f v) (Left v f.wt) := szForm_n _ f v (Nat.le_refl _) hf h0 h1
theorem szHitS_of {l : List Hit} {v : Int} (hl : l.length ≤ 9223372036854775807) (h0 : 0 ≤ v) (h1 : v ≤ 2 ^ 40) (ih : ∀ x ∈ l, ∀ v : Int, 0 ≤ v → v ≤ 2 ^ 40 → TQ (fun m => m_laws_szHit m x v) (Left v x.wt)) : TQ (fun m => m_laws_szHitS m l v) (Left v (Hit.wts l)) := by
  refine TQ.step (fun m => by rw [m_laws_szHitS, w64_in (by omega)]) ?_
  refine TQ.cond (fun _ => TQ.val (.inl rfl)) (fun h => ?_)
  replace h : 0 ≤ v - (l.length : Int) := by simpa using h
  have key := drop_ind l (fun k zs => ∀ g : Int, 0 ≤ g → g ≤ 2 ^ 40 → TQ (fun m => m_laws_szHitS_l1 m l g (k : Int)) (fun r => r = -1 ∨ (0 ≤ r ∧ r = g - Hit.wts zs + zs.length))) ?_ ?_ 0 (Nat.zero_le _) _ h (by omega)
  · refine TQ.mono (by simpa using key) (fun r hr => ?_)
    rcases hr with hr | ⟨hr, he⟩
    · exact .inl hr
    · exact .inr ⟨hr, by rw [he]; omega⟩
  · intro g hg _
    exact TQ.step (fun m => by rw [m_laws_szHitS_l1, ltN_self, cond_false]) (TQ.val (.inr ⟨hg, by simp [Hit.wts]⟩))
  · intro k x zs hk hx hd ihk g hg hg1
    refine TQ.step (fun m => by rw [m_laws_szHitS_l1, ltN hk, cond_true, idx_nat hx, Option.bind_some, succN]) ?_
    have hm := List.mem_of_getElem? hx
    refine TQ.bind (ih x hm g hg hg1) (fun r hr => ?_)
    rcases hr with rfl | ⟨hr, rfl⟩
    · exact TQ.cond (fun _ => TQ.val (.inl rfl)) (fun h => absurd h (by decide))
    refine TQ.cond (fun h => absurd h (by rw [geZ hr]; decide)) (fun _ => ?_)
    refine TQ.mono (ihk _ hr (by omega)) (fun r hr => ?_)
    rcases hr with hr | ⟨hr, he⟩
    · exact .inl hr
    · exact .inr ⟨hr, by rw [he, Hit.wts, List.length_cons]; omega⟩
theorem szHit_n : ∀ (n : Nat) (f : Hit) (v : Int), f.w ≤ n → f.fit → 0 ≤ v → v ≤ 2 ^ 40 → TQ (fun m => m_laws_szHit m f v) (Left v f.wt) := by
  intro n
  induction n with
  | zero => intro a v h; have := a.w_parts; omega
  | succ n ih =>
    intro f v h hf h0 h1
    obtain ⟨f1, f2, f3, f4⟩ := hf.parts
    have hw := f.w_parts
    have hwt := f.wt_parts
    refine TQ.step (fun m => by rw [m_laws_szHit]) (TQ.bind (szForm_tq _ _ f1 h0 h1) (fun r hr => ?_))
    rcases hr with rfl | ⟨hr, rfl⟩
    · exact TQ.cond (fun _ => TQ.val (.inl rfl)) (fun h => absurd h (by decide))
    refine TQ.cond (fun h => absurd h (by rw [geZ hr]; decide)) (fun _ => TQ.bind (szForm_tq _ _ f2 hr (by omega)) (fun r hr => ?_))
    rcases hr with rfl | ⟨hr, rfl⟩
    · exact TQ.cond (fun _ => TQ.val (.inl rfl)) (fun h => absurd h (by decide))
    refine TQ.cond (fun h => absurd h (by rw [geZ hr]; decide)) (fun _ => TQ.bind (szHitS_of (l := f.many) f3 hr (by omega) (fun x hx v h0 h1 => ih x v (by have := Hit.ws_mem hx; omega) (Hit.fits_mem f4 hx) h0 h1)) (fun r hr => ?_))
    rcases hr with rfl | ⟨hr, rfl⟩
    · exact TQ.cond (fun _ => TQ.val (.inl rfl)) (fun h => absurd h (by decide))
    exact TQ.cond (fun h => absurd h (by rw [geZ hr]; decide)) (fun _ => TQ.val (.inr ⟨hr, by omega⟩))
theorem szHitS_tq (l : List Hit) (v : Int) (hl : l.length ≤ 9223372036854775807) (hf : Hit.fits l) (h0 : 0 ≤ v) (h1 : v ≤ 2 ^ 40) : TQ (fun m => m_laws_szHitS m l v) (Left v (Hit.wts l)) :=
  szHitS_of hl h0 h1 (fun x hx v h0 h1 => szHit_n _ x v (Nat.le_refl _) (Hit.fits_mem hf hx) h0 h1)
end Go.Abs
end
section
set_option linter.unusedVariables false
set_option linter.unusedSimpArgs false
namespace Go.Abs
def letterB (c : Int) (first : Bool) : Bool := (decide (97 ≤ c) && decide (c ≤ 122)) || (decide (c = 42) || (decide (c = 63) || (decide (c = 61) || (decide (c = 43) || (decide (c = 60) || (!first && ((decide (48 ≤ c) && decide (c ≤ 57)) || decide (c = 45))))))))
theorem l1Letter_tr (c : Int) (first : Bool) : Tr (fun m => m_spec_l1Letter m c first) (letterB c first) := by
  refine Tr.of (fun m => ?_)
  unfold m_spec_l1Letter letterB
  cases decide (97 ≤ c) <;> cases decide (c ≤ 122) <;> cases decide (c = 42) <;> cases decide (c = 63) <;> cases decide (c = 61) <;> cases decide (c = 43) <;> cases decide (c = 60) <;> cases first <;> cases decide (48 ≤ c) <;> cases decide (c ≤ 57) <;> rfl
def nmF : Nat → List UInt8 → Bool
  | _, [] => true
  | k, x :: xs => letterB (x.toNat : Int) (decide ((k : Int) = 0)) && nmF (k + 1) xs
def nmSz (s : ByteArray) : Bool := decide (1 ≤ (s.size : Int)) && decide ((s.size : Int) ≤ 12)
def nmOk (s : ByteArray) : Bool := decide (s = (⟨#[46, 46, 46]⟩ : ByteArray)) || (decide (s = (⟨#[95]⟩ : ByteArray)) || (nmF 0 s.data.toList && nmSz s))
theorem sz_list (s : ByteArray) : s.size = s.data.toList.length := by rw [ByteArray.size]; simp
theorem bidx_nat {s : ByteArray} {k : Nat} {x : UInt8} (h : s.data.toList[k]? = some x) : bidx s (k : Int) = some (x.toNat : Int) := by
  have hk : k < s.size := by rw [sz_list]; exact (List.getElem?_eq_some_iff.1 h).1
  unfold bidx
  rw [show (decide ((0 : Int) ≤ k) && decide ((k : Int) < s.size)) = true by simp; omega, cond_true]
  rw [Int.toNat_natCast, byteAt, List.getD_eq_getElem?_getD, h]; rfl
theorem bif_and (a b : Bool) : (bif a then some b else some false) = some (a && b) := by cases a <;> rfl
theorem specNm_tr (s : ByteArray) : Tr (fun m => m_spec_NameValid m s) (nmOk s) := by
  refine Tr.eq (fun m => by unfold m_spec_NameValid; rfl) ?_
  unfold nmOk
  cases decide (s = (⟨#[46, 46, 46]⟩ : ByteArray)) with
  | true => exact Tr.tt rfl Tr.val
  | false =>
  refine Tr.ff rfl ?_
  cases decide (s = (⟨#[95]⟩ : ByteArray)) with
  | true => exact Tr.tt rfl Tr.val
  | false =>
  refine Tr.ff rfl ?_
  have hs := sz_list s
  have key := drop_ind s.data.toList (fun k zs => Tr (fun m => m_spec_NameValid_l1 m s (k : Int)) (nmF k zs && nmSz s)) ?_ ?_ 0 (Nat.zero_le _)
  · simpa using key
  · refine Tr.step (fun m => by rw [m_spec_NameValid_l1, hs, ltN_self, cond_false, ← hs]) (Tr.of fun m => ?_)
    rw [bif_and]; rfl
  · intro k x zs hk hx hd ih
    refine Tr.step (fun m => by rw [m_spec_NameValid_l1, ltN (show k < s.size by omega), cond_true]) ?_
    by_cases h12 : k ≤ 12
    · refine Tr.tt (decide_eq_true (by omega)) (Tr.eq (fun m => by rw [bidx_nat hx, Option.bind_some, w64_in (by omega), succN]) ?_)
      refine Tr.bind (l1Letter_tr _ _) ?_
      rw [nmF]
      cases letterB (x.toNat : Int) (decide ((k : Int) = 0)) with
      | false => exact Tr.tt rfl Tr.val
      | true => exact Tr.ff rfl (by simpa using ih)
    · refine Tr.ff (decide_eq_false (by omega)) (Tr.of fun m => ?_)
      have : nmSz s = false := by unfold nmSz; rw [decide_eq_false (show ¬ (s.size : Int) ≤ 12 by omega), Bool.and_false]
      rw [bif_and, this, Bool.and_false]
      rw [decide_eq_false (show ¬ (s.size : Int) ≤ 12 by omega), Bool.and_false]
theorem within_tr (x lo hi : Int) : Tr (fun m => m_impl_within m x lo hi) (decide (lo ≤ x) && decide (x ≤ hi)) :=
  Tr.of (fun m => by unfold m_impl_within; rw [bif_and])
theorem star_eq (x : UInt8) : decide (0 ≤ Lib.indexByte [42, 63, 61, 43, 60] ((x.toNat : Int).toNat.toUInt8)) = (decide ((x.toNat : Int) = 42) || (decide ((x.toNat : Int) = 63) || (decide ((x.toNat : Int) = 61) || (decide ((x.toNat : Int) = 43) || decide ((x.toNat : Int) = 60))))) := by
  have hx : ((x.toNat : Int).toNat.toUInt8) = x := by rw [Int.toNat_natCast]; exact UInt8.ofNat_toNat
  rw [hx]
  show decide (0 ≤ Lib.indexByte [42, 63, 61, 43, 60] x) = _
  by_cases h1 : x = 42
  · subst h1; decide
  by_cases h2 : x = 63
  · subst h2; decide
  by_cases h3 : x = 61
  · subst h3; decide
  by_cases h4 : x = 43
  · subst h4; decide
  by_cases h5 : x = 60
  · subst h5; decide
  have ne : ∀ (y : UInt8) (z : Int), (y.toNat : Int) = z → x ≠ y → ¬ ((x.toNat : Int) = z) := fun y z hz hy e => hy (UInt8.toNat_inj.1 (by omega))
  have e : Lib.indexByte [42, 63, 61, 43, 60] x = -1 := by
    simp [Lib.indexByte, Ne.symm h1, Ne.symm h2, Ne.symm h3, Ne.symm h4, Ne.symm h5, beq_eq_false_iff_ne]
  rw [e, decide_eq_false (ne 42 42 rfl h1), decide_eq_false (ne 63 63 rfl h2), decide_eq_false (ne 61 61 rfl h3), decide_eq_false (ne 43 43 rfl h4), decide_eq_false (ne 60 60 rfl h5)]
  rfl
theorem implNm_tr (s : ByteArray) (hs : s.size ≤ 9223372036854775807) : Tr (fun m => m_impl_NameValid m s) (nmOk s) := by
  refine Tr.eq (fun m => by unfold m_impl_NameValid; rfl) ?_
  unfold nmOk
  cases decide (s = (⟨#[46, 46, 46]⟩ : ByteArray)) with
  | true => exact Tr.tt rfl Tr.val
  | false =>
  refine Tr.ff rfl ?_
  cases decide (s = (⟨#[95]⟩ : ByteArray)) with
  | true => exact Tr.tt rfl Tr.val
  | false =>
  refine Tr.ff rfl ?_
  have hsz := sz_list s
  have key := drop_ind s.data.toList (fun k zs => Tr (fun m => m_impl_NameValid_l1 m s (k : Int)) (nmF k zs && nmSz s)) ?_ ?_ 0 (Nat.zero_le _)
  · simpa using key
  · refine Tr.step (fun m => by rw [m_impl_NameValid_l1, hsz, ltN_self, cond_false, ← hsz]) ?_
    refine Tr.bind (within_tr _ _ _) Tr.val
  · intro k x zs hk hx hd ih
    refine Tr.step (fun m => by rw [m_impl_NameValid_l1, ltN (show k < s.size by omega), cond_true, bidx_nat hx, Option.bind_some, w64_in (by omega), succN]) ?_
    simp only [m_strings_IndexByte, Option.bind_some, star_eq]
    rw [nmF]
    unfold letterB
    have hp : decide (0 < (k : Int)) = !decide ((k : Int) = 0) := by
      rw [Bool.eq_iff_iff, Bool.not_eq_true', decide_eq_true_iff, decide_eq_false_iff_not]; omega
    rw [hp]
    rw [Bool.and_assoc]
    generalize hR : (nmF (k + 1) zs && nmSz s) = R at ih ⊢
    generalize decide (97 ≤ (x.toNat : Int)) = b1
    generalize decide ((x.toNat : Int) ≤ 122) = b2
    generalize decide ((x.toNat : Int) = 42) = c1
    generalize decide ((x.toNat : Int) = 63) = c2
    generalize decide ((x.toNat : Int) = 61) = c3
    generalize decide ((x.toNat : Int) = 43) = c4
    generalize decide ((x.toNat : Int) = 60) = c5
    generalize decide ((k : Int) = 0) = z
    generalize decide (48 ≤ (x.toNat : Int)) = b3
    generalize decide ((x.toNat : Int) ≤ 57) = b4
    generalize decide ((x.toNat : Int) = 45) = b5
    have hc : ∀ a b c d e w : Bool, (a || (b || (c || (d || (e || w))))) = ((a || (b || (c || (d || e)))) || w) := by decide
    rw [hc c1 c2 c3 c4 c5]
    generalize (c1 || (c2 || (c3 || (c4 || c5)))) = st
    cases b1 <;> cases b2 <;> cases st <;> cases z <;> cases b3 <;> cases b4 <;> cases b5 <;> first | exact Tr.val | exact ih
def gtP : Option Int → Int → Bool
  | none, _ => true
  | some q, x => decide (q < x)
def scF : Option Int → List Int → Bool
  | _, [] => true
  | p, x :: xs => (decide (1 ≤ x) && decide (x ≤ 99)) && (gtP p x && scF (some x) xs)
def prevAt (l : List Int) : Nat → Option Int
  | 0 => none
  | j + 1 => l[j]?
def scOk (l : List Int) : Bool := scF none l && decide ((l.length : Int) ≤ 24)
theorem prev_succ {l : List Int} {k : Nat} {x : Int} (h : l[k]? = some x) : prevAt l (k + 1) = some x := h
theorem pos_succ (k : Nat) : decide ((0 : Int) < ((k + 1 : Nat) : Int)) = true := decide_eq_true (by omega)
theorem implSc_tr (l : List Int) (hl : l.length ≤ 9223372036854775807) : Tr (fun m => m_impl_scopesOk m l) (scOk l) := by
  refine Tr.eq (fun m => by unfold m_impl_scopesOk; rfl) ?_
  have key := drop_ind l (fun k zs => Tr (fun m => m_impl_scopesOk_l1 m l (k : Int)) (scF (prevAt l k) zs && decide ((l.length : Int) ≤ 24))) ?_ ?_ 0 (Nat.zero_le _)
  · simpa [scOk, prevAt] using key
  · exact Tr.step (fun m => by rw [m_impl_scopesOk_l1, ltN_self, cond_false]; simp [scF]) Tr.val
  · intro k x zs hk hx hd ih
    rw [prev_succ hx] at ih
    refine Tr.step (fun m => by rw [m_impl_scopesOk_l1, ltN hk, cond_true, idx_nat hx, Option.bind_some, succN]) ?_
    refine Tr.bind (within_tr _ _ _) ?_
    rw [scF]
    cases (decide (1 ≤ x) && decide (x ≤ 99)) with
    | false => exact Tr.tt rfl Tr.val
    | true =>
    refine Tr.ff rfl ?_
    cases k with
    | zero => exact Tr.ff (by simp) (by simpa [prevAt, gtP] using ih)
    | succ j =>
      have hj : l[j]? = some l[j] := List.getElem?_eq_getElem (by omega)
      refine Tr.tt (pos_succ j) (Tr.eq (fun m => by rw [w64_in (by omega), show ((j + 1 : Nat) : Int) - 1 = (j : Int) by omega, idx_nat hj, Option.bind_some]) ?_)
      rw [show prevAt l (j + 1) = some l[j] from hj, gtP]
      by_cases h : x ≤ l[j]
      · rw [decide_eq_false (show ¬ l[j] < x by omega)]; exact Tr.tt (decide_eq_true h) Tr.val
      · rw [decide_eq_true (show l[j] < x by omega)]; exact Tr.ff (decide_eq_false h) (by simpa using ih)
theorem specSc_tr (l : List Int) (hl : l.length ≤ 9223372036854775807) : Tr (fun m => m_spec_l1Scopes m l) (scOk l) := by
  refine Tr.eq (fun m => by unfold m_spec_l1Scopes; rfl) ?_
  have key := drop_ind l (fun k zs => Tr (fun m => m_spec_l1Scopes_l1 m l (k : Int)) (scF (prevAt l k) zs && decide ((l.length : Int) ≤ 24))) ?_ ?_ 0 (Nat.zero_le _)
  · simpa [scOk, prevAt] using key
  · exact Tr.step (fun m => by rw [m_spec_l1Scopes_l1, ltN_self, cond_false]; simp [scF]) Tr.val
  · intro k x zs hk hx hd ih
    rw [prev_succ hx] at ih
    refine Tr.step (fun m => by rw [m_spec_l1Scopes_l1, ltN hk, cond_true]) ?_
    by_cases h24 : k ≤ 24
    case neg =>
      refine Tr.ff (decide_eq_false (by omega)) (Tr.of fun m => ?_)
      rw [decide_eq_false (show ¬ (l.length : Int) ≤ 24 by omega), Bool.and_false]
    refine Tr.tt (decide_eq_true (by omega)) (Tr.eq (fun m => by rw [idx_nat hx, Option.bind_some, Option.bind_some]) ?_)
    rw [scF]
    by_cases h1 : x < 1
    · rw [decide_eq_false (show ¬ 1 ≤ x by omega)]; exact Tr.tt (decide_eq_true h1) Tr.val
    rw [decide_eq_true (show 1 ≤ x by omega)]
    refine Tr.ff (decide_eq_false h1) ?_
    by_cases h2 : 99 < x
    · rw [decide_eq_false (show ¬ x ≤ 99 by omega)]; exact Tr.tt (decide_eq_true h2) Tr.val
    rw [decide_eq_true (show x ≤ 99 by omega)]
    refine Tr.ff (decide_eq_false h2) ?_
    cases k with
    | zero => exact Tr.ff (by simp) (Tr.eq (fun m => by rw [w64_in (by omega), succN]) (by simpa [prevAt, gtP] using ih))
    | succ j =>
      have hj : l[j]? = some l[j] := List.getElem?_eq_getElem (by omega)
      refine Tr.tt (pos_succ j) (Tr.eq (fun m => by rw [Option.bind_some, w64_in (by omega), show ((j + 1 : Nat) : Int) - 1 = (j : Int) by omega, idx_nat hj, Option.bind_some]) ?_)
      rw [show prevAt l (j + 1) = some l[j] from hj, gtP]
      by_cases h : x ≤ l[j]
      · rw [decide_eq_false (show ¬ l[j] < x by omega)]; exact Tr.tt (decide_eq_true h) Tr.val
      · rw [decide_eq_true (show l[j] < x by omega)]; exact Tr.ff (decide_eq_false h) (Tr.eq (fun m => by rw [w64_in (by omega), succN]) (by simpa using ih))
end Go.Abs
end
section
set_option linter.unusedVariables false
set_option linter.unusedSimpArgs false
namespace Go.Abs
mutual
def Form.isOk : Form → Nat → Bool
  | .mk kind name n scopes kids, d => bif decide (d = 0) then false else
    bif decide (kind = 1) then (nmOk name && (decide (n = 0) && (scOk scopes && decide ((kids.length : Int) = 0))))
    else bif decide (kind = 2) then (decide (name = (⟨#[]⟩ : ByteArray)) && ((decide (0 ≤ n) && decide (n ≤ 999)) && (decide ((scopes.length : Int) = 0) && decide ((kids.length : Int) = 0))))
    else (decide (kind = 3) && (decide (name = (⟨#[]⟩ : ByteArray)) && (decide (n = 0) && (decide ((scopes.length : Int) = 0) && Form.isOks kids (d - 1)))))
def Form.isOks : List Form → Nat → Bool
  | [], _ => true
  | f :: fs, d => f.isOk d && Form.isOks fs d
end
mutual
def Form.cnt : Form → Nat
  | .mk _ _ _ _ kids => 1 + Form.cnts kids
def Form.cnts : List Form → Nat
  | [] => 0
  | f :: fs => f.cnt + Form.cnts fs
end
theorem Form.isOks_eq (d : Nat) : ∀ l : List Form, Form.isOks l d = alls (fun x => x.isOk d) l
  | [] => rfl
  | f :: fs => by rw [Form.isOks, alls, Form.isOks_eq d fs]
theorem Form.isOk_eq (f : Form) (d : Nat) : f.isOk d = bif decide (d = 0) then false else
    bif decide (f.kind = 1) then (nmOk f.name && (decide (f.n = 0) && (scOk f.scopes && decide ((f.kids.length : Int) = 0))))
    else bif decide (f.kind = 2) then (decide (f.name = (⟨#[]⟩ : ByteArray)) && ((decide (0 ≤ f.n) && decide (f.n ≤ 999)) && (decide ((f.scopes.length : Int) = 0) && decide ((f.kids.length : Int) = 0))))
    else (decide (f.kind = 3) && (decide (f.name = (⟨#[]⟩ : ByteArray)) && (decide (f.n = 0) && (decide ((f.scopes.length : Int) = 0) && alls (fun x => x.isOk (d - 1)) f.kids)))) := by
  obtain ⟨a, b, c, e, g⟩ := f; rw [Form.isOk, Form.isOks_eq]; rfl
theorem Form.cnt_eq (f : Form) : f.cnt = 1 + Form.cnts f.kids := by obtain ⟨a, b, c, e, g⟩ := f; rw [Form.cnt]; rfl
mutual
theorem Form.cnt_w : ∀ f : Form, f.cnt ≤ f.w
  | .mk a b c d e => by have := Form.cnts_ws e; rw [Form.cnt, Form.w]; omega
theorem Form.cnts_ws : ∀ l : List Form, Form.cnts l ≤ Form.ws l
  | [] => by simp [Form.cnts]
  | f :: fs => by have := Form.cnt_w f; have := Form.cnts_ws fs; rw [Form.cnts, Form.ws]; omega
end
def Form.valid (f : Form) : Bool := f.isOk 40 && decide (f.cnt ≤ 400)
theorem l1Is_n : ∀ (n : Nat) (f : Form) (d : Nat), f.w ≤ n → f.fit → d ≤ 40 → Tr (fun m => m_spec_l1Is m f (d : Int)) (f.isOk d) := by
  intro n
  induction n with
  | zero => intro a d h; have := a.w_pos; omega
  | succ n ih =>
    intro f d h hf hd
    obtain ⟨f1, f2, f3, f4⟩ := hf.parts
    have hw := f.w_kids
    rw [Form.isOk_eq]
    refine Tr.step (fun m => by rw [m_spec_l1Is]) ?_
    cases hd0 : decide (d = 0) with
    | true => exact Tr.tt (decide_eq_true (by simpa using hd0)) Tr.val
    | false =>
    have hd1 : d ≠ 0 := by simpa using hd0
    refine Tr.ff (decide_eq_false (by omega)) ?_
    rw [cond_false]
    cases decide (f.kind = 1) with
    | true =>
      refine Tr.tt rfl (Tr.bind (specNm_tr _) ?_)
      rw [cond_true]
      cases nmOk f.name with
      | false => exact Tr.ff rfl Tr.val
      | true =>
      refine Tr.tt rfl ?_
      cases decide (f.n = 0) with
      | false => exact Tr.ff rfl Tr.val
      | true =>
      refine Tr.tt rfl (Tr.bind (specSc_tr _ f2) ?_)
      cases scOk f.scopes with
      | false => exact Tr.ff rfl Tr.val
      | true => exact Tr.tt rfl Tr.val
    | false =>
    refine Tr.ff rfl ?_
    rw [cond_false]
    cases decide (f.kind = 2) with
    | true =>
      refine Tr.tt rfl (Tr.of fun m => ?_)
      rw [cond_true]
      cases decide (f.name = (⟨#[]⟩ : ByteArray)) <;> cases decide (0 ≤ f.n) <;> cases decide (f.n ≤ 999) <;> cases decide ((f.scopes.length : Int) = 0) <;> rfl
    | false =>
    refine Tr.ff rfl ?_
    rw [cond_false]
    by_cases h3 : f.kind = 3
    case neg => rw [decide_eq_false h3]; exact Tr.tt (by simpa using h3) Tr.val
    rw [decide_eq_true h3]
    refine Tr.ff (by simpa using h3) ?_
    by_cases h4 : f.name = (⟨#[]⟩ : ByteArray)
    case neg => rw [decide_eq_false h4]; exact Tr.tt (by simpa using h4) Tr.val
    rw [decide_eq_true h4]
    refine Tr.ff (by simpa using h4) ?_
    by_cases h5 : f.n = 0
    case neg => rw [decide_eq_false h5]; exact Tr.tt (by simpa using h5) Tr.val
    rw [decide_eq_true h5]
    refine Tr.ff (by simpa using h5) ?_
    by_cases h6 : (f.scopes.length : Int) = 0
    case neg => rw [decide_eq_false h6]; exact Tr.tt (by rw [decide_eq_true_eq]; exact h6) Tr.val
    rw [decide_eq_true h6]
    refine Tr.ff (by rw [decide_eq_false_iff_not]; exact fun h => h h6) ?_
    have e : ((d : Int) - 1) = ((d - 1 : Nat) : Int) := by omega
    have := loop_all (xs := f.kids) (c := true) (D := fun x => x.isOk (d - 1)) (L := fun m k => m_spec_l1Is_l1 m f (d : Int) k) (E := fun m x => m_spec_l1Is m x (w64 ((d : Int) - 1))) (fun m k => by rw [m_spec_l1Is_l1]) (fun x hx => by
      rw [w64_in (by omega), e]; exact ih x (d - 1) (by have := Form.ws_mem hx; omega) (Form.fits_mem f4 hx) (by omega))
    simpa using this
theorem l1Count_n : ∀ (n : Nat) (f : Form), f.w ≤ n → f.w ≤ 2 ^ 36 → Tr (fun m => m_spec_l1Count m f) (f.cnt : Int) := by
  intro n
  induction n with
  | zero => intro a h; have := a.w_pos; omega
  | succ n ih =>
    intro f h hb
    have hw := f.w_kids
    have hc := Form.cnts_ws f.kids
    refine Tr.step (fun m => by rw [m_spec_l1Count]) ?_
    have key := drop_ind f.kids (fun k zs => ∀ g : Nat, g + Form.ws zs ≤ 2 ^ 37 → Tr (fun m => m_spec_l1Count_l1 m f (g : Int) (k : Int)) ((g + Form.cnts zs : Nat) : Int)) ?_ ?_ 0 (Nat.zero_le _) 1 (by simp; omega)
    · rw [Form.cnt_eq]; simpa using key
    · intro g hg
      exact Tr.step (fun m => by rw [m_spec_l1Count_l1, ltN_self, cond_false]; simp [Form.cnts]) Tr.val
    · intro k x zs hk hx hd ihk g hg
      have hm := List.mem_of_getElem? hx
      have hxw := Form.ws_mem hm
      have hcx := Form.cnt_w x
      rw [Form.ws] at hg
      refine Tr.step (fun m => by rw [m_spec_l1Count_l1, ltN hk, cond_true, idx_nat hx, Option.bind_some, succN]) ?_
      refine Tr.bind (ih x (by omega) (by omega)) ?_
      refine Tr.eq (fun m => by rw [w64_in (by omega), show (g : Int) + (x.cnt : Int) = ((g + x.cnt : Nat) : Int) by omega]) ?_
      rw [Form.cnts, ← Nat.add_assoc]
      exact ihk _ (by omega)
theorem specFormValid_tr (f : Form) (hf : f.fit) (hb : f.w ≤ 2 ^ 36) : Tr (fun m => m_spec_FormValid m f) f.valid := by
  refine Tr.eq (fun m => by unfold m_spec_FormValid; rfl) (Tr.bind (l1Is_n _ f 40 (Nat.le_refl _) hf (by omega)) ?_)
  unfold Form.valid
  cases f.isOk 40 with
  | false => exact Tr.ff rfl Tr.val
  | true =>
    refine Tr.tt rfl (Tr.bind (l1Count_n _ f (Nat.le_refl _) hb) (Tr.of fun m => ?_))
    rw [Bool.true_and]; congr 1
    rw [Bool.eq_iff_iff, decide_eq_true_iff, decide_eq_true_iff]; omega
theorem formOk_n : ∀ (n : Nat) (f : Form) (d : Nat) (g : Int), f.w ≤ n → f.fit → 1 ≤ d → d ≤ 41 → 0 ≤ g → g ≤ 400 → TQ (fun m => m_impl_formOk m f (d : Int) g) (fun r => r.1 = (f.isOk (41 - d) && decide ((f.cnt : Int) ≤ g)) ∧ (r.1 = true → r.2 = g - f.cnt)) := by
  intro n
  induction n with
  | zero => intro a d g h; have := a.w_pos; omega
  | succ n ih =>
    intro f d g h hf hd hd' hg hg'
    obtain ⟨f1, f2, f3, f4⟩ := hf.parts
    have hw := f.w_kids
    have hcn := f.cnt_eq
    rw [Form.isOk_eq]
    refine TQ.step (fun m => by rw [m_impl_formOk, w64_in (by omega)]) ?_
    by_cases hg0 : g - 1 < 0
    · refine TQ.eq (fun m => by rw [decide_eq_true hg0, cond_true]) (TQ.val ⟨?_, fun h => by cases h⟩)
      rw [decide_eq_false (show ¬ (f.cnt : Int) ≤ g by omega), Bool.and_false]
    refine TQ.eq (fun m => by rw [decide_eq_false hg0, cond_false]) ?_
    by_cases hd0 : 40 < (d : Int)
    · refine TQ.eq (fun m => by rw [decide_eq_true hd0, cond_true]) (TQ.val ⟨?_, fun h => by cases h⟩)
      rw [decide_eq_true (show 41 - d = 0 by omega), cond_true, Bool.false_and]
    refine TQ.eq (fun m => by rw [decide_eq_false hd0, cond_false]) ?_
    rw [decide_eq_false (show ¬ 41 - d = 0 by omega), cond_false]
    have leaf : ∀ (b : Bool), ((b && decide ((f.kids.length : Int) = 0)) = true → True) := fun _ _ => trivial
    have cnt1 : (f.kids.length : Int) = 0 → (f.cnt : Int) = 1 := fun h => by
      have : f.kids = [] := List.eq_nil_of_length_eq_zero (by omega)
      rw [hcn, this, Form.cnts]; rfl
    have fin : TQ (fun _ => some ((decide ((f.kids.length : Int) = 0)), g - 1)) (fun r => r.1 = (decide ((f.kids.length : Int) = 0) && decide ((f.cnt : Int) ≤ g)) ∧ (r.1 = true → r.2 = g - f.cnt)) := by
      refine TQ.val ⟨?_, fun h => by have := cnt1 (by simpa using h); omega⟩
      by_cases hk : (f.kids.length : Int) = 0
      · have := cnt1 hk
        rw [decide_eq_true hk, decide_eq_true (show (f.cnt : Int) ≤ g by omega)]; rfl
      · rw [decide_eq_false hk]; rfl
    have no : TQ (fun _ => some (false, g - 1)) (fun r => r.1 = (false && decide ((f.cnt : Int) ≤ g)) ∧ (r.1 = true → r.2 = g - f.cnt)) := TQ.val ⟨rfl, fun h => by cases h⟩
    cases decide (f.kind = 1) with
    | true =>
      refine TQ.eq (fun m => by rw [cond_true]) (TQ.ev (implNm_tr _ f1) ?_)
      rw [cond_true]
      cases nmOk f.name with
      | false => exact no
      | true =>
      refine TQ.eq (fun m => by rw [cond_true]) ?_
      cases decide (f.n = 0) with
      | false => exact no
      | true =>
      refine TQ.eq (fun m => by rw [cond_true]) (TQ.ev (implSc_tr _ f2) ?_)
      cases scOk f.scopes with
      | false => exact no
      | true => exact fin
    | false =>
    refine TQ.eq (fun m => by rw [cond_false]) ?_
    rw [cond_false]
    cases decide (f.kind = 2) with
    | true =>
      refine TQ.eq (fun m => by rw [cond_true]) ?_
      rw [cond_true]
      cases decide (f.name = (⟨#[]⟩ : ByteArray)) with
      | false => exact no
      | true =>
      refine TQ.eq (fun m => by rw [cond_true]) (TQ.ev (within_tr _ _ _) ?_)
      cases (decide (0 ≤ f.n) && decide (f.n ≤ 999)) with
      | false => exact no
      | true =>
      refine TQ.eq (fun m => by rw [cond_true]) ?_
      cases decide ((f.scopes.length : Int) = 0) with
      | false => exact no
      | true => exact fin
    | false =>
    refine TQ.eq (fun m => by rw [cond_false]) ?_
    rw [cond_false]
    cases decide (f.kind = 3) with
    | false => exact no
    | true =>
    refine TQ.eq (fun m => by rw [cond_true]) ?_
    by_cases h4 : f.name = (⟨#[]⟩ : ByteArray)
    case neg => rw [decide_eq_false h4]; exact TQ.eq (fun m => by rw [decide_eq_true h4, cond_true]) no
    rw [decide_eq_true h4]
    refine TQ.eq (fun m => by rw [decide_eq_false (fun h => h h4), cond_false]) ?_
    by_cases h5 : f.n = 0
    case neg => rw [decide_eq_false h5]; exact TQ.eq (fun m => by rw [decide_eq_true h5, cond_true]) no
    rw [decide_eq_true h5]
    refine TQ.eq (fun m => by rw [decide_eq_false (fun h => h h5), cond_false]) ?_
    by_cases h6 : (f.scopes.length : Int) = 0
    case neg => rw [decide_eq_false h6]; exact TQ.eq (fun m => by rw [decide_eq_true (show 0 < (f.scopes.length : Int) by omega), cond_true]) no
    rw [decide_eq_true h6]
    refine TQ.eq (fun m => by rw [decide_eq_false (show ¬ 0 < (f.scopes.length : Int) by omega), cond_false]) ?_
    have key := drop_ind f.kids (fun k zs => ∀ g : Int, 0 ≤ g → g ≤ 400 → TQ (fun m => m_impl_formOk_l1 m f (d : Int) (k : Int) g) (fun r => r.1 = (alls (fun x => x.isOk (41 - d - 1)) zs && decide ((Form.cnts zs : Int) ≤ g)) ∧ (r.1 = true → r.2 = g - Form.cnts zs))) ?_ ?_ 0 (Nat.zero_le _) (g - 1) (by omega) (by omega)
    · refine TQ.mono (by simpa using key) (fun r hr => ⟨?_, fun h => by have := hr.2 h; omega⟩)
      rw [hr.1]
      simp only [Bool.true_and]
      congr 1
      rw [Bool.eq_iff_iff, decide_eq_true_iff, decide_eq_true_iff]; omega
    · intro g hg _
      exact TQ.step (fun m => by rw [m_impl_formOk_l1, ltN_self, cond_false]) (TQ.val ⟨by simp [alls, Form.cnts, hg], fun _ => by simp [Form.cnts]⟩)
    · intro k x zs hk hx hdr ihk g hg hg'
      have hm := List.mem_of_getElem? hx
      refine TQ.step (fun m => by rw [m_impl_formOk_l1, ltN hk, cond_true, idx_nat hx, Option.bind_some, succN, w64_in (by omega), succN]) ?_
      refine TQ.bind (ih x (d + 1) g (by have := Form.ws_mem hm; omega) (Form.fits_mem f4 hm) (by omega) (by omega) hg hg') (fun r hr => ?_)
      obtain ⟨h1, h2⟩ := hr
      have e : 41 - (d + 1) = 41 - d - 1 := by omega
      rw [e] at h1
      refine TQ.cond (fun hb => ?_) (fun hb => ?_)
      · refine TQ.val ⟨?_, fun h => by cases h⟩
        replace hb : r.1 = false := by simpa using hb
        rw [hb] at h1
        rw [alls, Form.cnts]
        cases hx : x.isOk (41 - d - 1) with
        | false => rfl
        | true =>
          rw [hx, Bool.true_and] at h1
          have : ¬ (x.cnt : Int) ≤ g := of_decide_eq_false h1.symm
          rw [decide_eq_false (show ¬ ((x.cnt + Form.cnts zs : Nat) : Int) ≤ g by omega), Bool.and_false]
      · replace hb : r.1 = true := by simpa using hb
        have h3 := h2 hb
        rw [hb] at h1
        have h4 := (Bool.and_eq_true _ _ ▸ h1.symm : _ ∧ _)
        have h5 : (x.cnt : Int) ≤ g := of_decide_eq_true h4.2
        refine TQ.mono (ihk r.2 (by omega) (by omega)) (fun q hq => ⟨?_, fun h => by have := hq.2 h; rw [Form.cnts]; omega⟩)
        rw [hq.1, alls, Form.cnts, h4.1, Bool.true_and]
        congr 1
        rw [Bool.eq_iff_iff, decide_eq_true_iff, decide_eq_true_iff]; omega
theorem implFormValid_tr (f : Form) (hf : f.fit) : Tr (fun m => m_impl_FormValid m f) f.valid := by
  obtain ⟨r, h1, h2, _⟩ := formOk_n _ f 1 400 (Nat.le_refl _) hf (by omega) (by omega) (by omega) (by omega)
  refine Tr.eq (fun m => by unfold m_impl_FormValid; rfl) (Tr.bind h1 (Tr.of fun m => ?_))
  rw [h2]; unfold Form.valid; congr 2
  rw [Bool.eq_iff_iff, decide_eq_true_iff, decide_eq_true_iff]; omega
end Go.Abs
end
section
set_option linter.unusedVariables false
set_option linter.unusedSimpArgs false
namespace Go.Abs
abbrev dotsN : ByteArray := (⟨#[46, 46, 46]⟩ : ByteArray)
abbrev underN : ByteArray := (⟨#[95]⟩ : ByteArray)
abbrev form0 : Form := Form.mk 0 (⟨#[]⟩ : ByteArray) 0 ([] : List Int) ([] : List Form)
def isNm (f : Form) : Bool := decide (f.kind = 1) && f.valid
theorem implIsName_tr (f : Form) (hf : f.fit) : Tr (fun m => m_impl_isName m f) (isNm f) := by
  refine Tr.eq (fun m => by unfold m_impl_isName; rfl) ?_
  unfold isNm
  cases decide (f.kind = 1) with
  | false => exact Tr.ff rfl Tr.val
  | true => exact Tr.tt rfl (Tr.bind (implFormValid_tr f hf) Tr.val)
theorem l3Is_tr (f : Form) (hf : f.fit) (hb : f.w ≤ 2 ^ 36) : Tr (fun m => m_spec_l3Is m f) (isNm f) := by
  refine Tr.eq (fun m => by unfold m_spec_l3Is; rfl) ?_
  unfold isNm
  cases decide (f.kind = 1) with
  | false => exact Tr.ff rfl Tr.val
  | true => exact Tr.tt rfl (Tr.bind (specFormValid_tr f hf hb) Tr.val)
mutual
noncomputable def Hit.isOk : Hit → Bool
  | .mk name depth one many => isNm name && (!decide (name.name = dotsN) && (!decide (name.name = underN) && ((decide (0 ≤ depth) && decide (depth ≤ 3)) &&
      bif decide (depth = 0) then (one.valid && decide ((many.length : Int) = 0)) else (same one form0 && (decide ((many.length : Int) ≤ 400) && Hit.isOks many name (depth - 1))))))
noncomputable def Hit.isOks : List Hit → Form → Int → Bool
  | [], _, _ => true
  | x :: xs, nm, d => (same x.name nm && (decide (x.depth = d) && x.isOk)) && Hit.isOks xs nm d
end
theorem Hit.isOks_eq (nm : Form) (d : Int) : ∀ l : List Hit, Hit.isOks l nm d = alls (fun x => same x.name nm && (decide (x.depth = d) && x.isOk)) l
  | [] => by rw [Hit.isOks, alls]
  | x :: xs => by rw [Hit.isOks, alls, Hit.isOks_eq nm d xs]
theorem Hit.isOk_eq (h : Hit) : h.isOk = (isNm h.name && (!decide (h.name.name = dotsN) && (!decide (h.name.name = underN) && ((decide (0 ≤ h.depth) && decide (h.depth ≤ 3)) &&
      bif decide (h.depth = 0) then (h.one.valid && decide ((h.many.length : Int) = 0)) else (same h.one form0 && (decide ((h.many.length : Int) ≤ 400) && alls (fun x => same x.name h.name && (decide (x.depth = h.depth - 1) && x.isOk)) h.many)))))) := by
  obtain ⟨a, b, c, d⟩ := h; rw [Hit.isOk, Hit.isOks_eq]; rfl
theorem fnd_none {α : Type} {D : α → Bool} {l : List α} {k : Nat} : decide (0 ≤ fnd D l k) = !alls (fun x => !D x) l := by
  rw [Bool.eq_iff_iff, decide_eq_true_iff, fnd_ge, Bool.not_eq_true', ← Bool.not_eq_true, alls_iff]
  constructor
  · rintro ⟨x, hx, h⟩ hh
    have := hh x hx
    rw [h] at this; cases this
  · intro h
    refine Classical.byContradiction fun hn => h fun x hx => ?_
    cases hd : D x with
    | false => rfl
    | true => exact absurd ⟨x, hx, hd⟩ hn
theorem hitOk_n : ∀ (n : Nat) (h : Hit), h.w ≤ n → h.fit → Tr (fun m => m_impl_hitOk m h) h.isOk := by
  intro n
  induction n with
  | zero => intro a h; have := a.w_parts; omega
  | succ n ih =>
    intro h hn hf
    obtain ⟨f1, f2, f3, f4⟩ := hf.parts
    have hw := h.w_parts
    rw [Hit.isOk_eq]
    refine Tr.step (fun m => by rw [m_impl_hitOk]) (Tr.bind (implIsName_tr _ f1) ?_)
    cases isNm h.name with
    | false => exact Tr.tt rfl Tr.val
    | true =>
    refine Tr.ff rfl ?_
    cases decide (h.name.name = dotsN) with
    | true => exact Tr.tt rfl Tr.val
    | false =>
    refine Tr.ff rfl ?_
    cases decide (h.name.name = underN) with
    | true => exact Tr.tt rfl Tr.val
    | false =>
    refine Tr.ff rfl (Tr.bind (within_tr _ _ _) ?_)
    cases hr : (decide (0 ≤ h.depth) && decide (h.depth ≤ 3)) with
    | false => exact Tr.tt rfl Tr.val
    | true =>
    obtain ⟨hr1, hr2⟩ : 0 ≤ h.depth ∧ h.depth ≤ 3 := by simpa using hr
    refine Tr.ff rfl ?_
    cases decide (h.depth = 0) with
    | true =>
      refine Tr.tt rfl (Tr.bind (implFormValid_tr _ f2) ?_)
      cases h.one.valid with
      | false => exact Tr.ff rfl Tr.val
      | true => exact Tr.tt rfl Tr.val
    | false =>
    refine Tr.ff rfl (Tr.bind (implFormSame_tr _ _) ?_)
    simp only [cond_false, Bool.not_false, Bool.true_and]
    cases same h.one form0 with
    | false => exact Tr.ff rfl Tr.val
    | true =>
    refine Tr.tt rfl ?_
    cases decide ((h.many.length : Int) ≤ 400) with
    | false => exact Tr.ff rfl Tr.val
    | true =>
    refine Tr.tt rfl ?_
    have bad : ∀ x ∈ h.many, Tr (fun m => m_impl_hitOk_1 m x h) (!(same x.name h.name && (decide (x.depth = h.depth - 1) && x.isOk))) := by
      intro x hx
      refine Tr.step (fun m => by rw [m_impl_hitOk_1]) (Tr.bind (implFormSame_tr _ _) ?_)
      cases same x.name h.name with
      | false => exact Tr.tt rfl Tr.val
      | true =>
      refine Tr.ff rfl (Tr.eq (fun m => by rw [w64_in (by omega)]) ?_)
      by_cases hd : x.depth = h.depth - 1
      · refine Tr.ff (decide_eq_false (fun h => h hd)) (Tr.bind (ih x (by have := Hit.ws_mem hx; omega) (Hit.fits_mem f4 hx)) ?_)
        rw [decide_eq_true hd]; exact Tr.val
      · rw [decide_eq_false hd]; exact Tr.tt (decide_eq_true hd) Tr.val
    refine Tr.bind (v := decide (0 ≤ fnd (fun x => !(same x.name h.name && (decide (x.depth = h.depth - 1) && x.isOk))) h.many 0)) ?_ (Tr.of fun m => ?_)
    · refine Tr.step (fun m => by rw [m_slices_ContainsFunc_Hit_hitOk_1]) (Tr.bind ?_ Tr.val)
      refine Tr.step (fun m => by rw [m_slices_IndexFunc_Hit_hitOk_1]) ?_
      exact loop_find (xs := h.many) (L := fun m k => m_slices_IndexFunc_Hit_hitOk_1_l1 m h.many h k) (E := fun m x => m_impl_hitOk_1 m x h) (fun m k => by rw [m_slices_IndexFunc_Hit_hitOk_1_l1]) bad
    · rw [fnd_none, Bool.not_not]; simp only [Bool.not_not]; rfl
theorem hitOk_tr (h : Hit) (hf : h.fit) : Tr (fun m => m_impl_hitOk m h) h.isOk := hitOk_n _ h (Nat.le_refl _) hf
theorem l4Hit_n : ∀ (n : Nat) (h : Hit) (x2 : Int), h.w ≤ n → h.w ≤ 2 ^ 36 → h.fit → Tr (fun m => m_spec_l4Hit m h x2) (decide (h.depth = x2) && h.isOk) := by
  intro n
  induction n with
  | zero => intro a x2 h; have := a.w_parts; omega
  | succ n ih =>
    intro h x2 hn hb hf
    obtain ⟨f1, f2, f3, f4⟩ := hf.parts
    have hw := h.w_parts
    rw [Hit.isOk_eq]
    refine Tr.step (fun m => by rw [m_spec_l4Hit]) ?_
    by_cases hd : h.depth = x2
    case neg => rw [decide_eq_false hd]; exact Tr.tt (decide_eq_true hd) Tr.val
    subst hd
    rw [decide_eq_true rfl, Bool.true_and]
    refine Tr.ff (decide_eq_false (fun h => h rfl)) ?_
    by_cases h0 : h.depth < 0
    · rw [decide_eq_false (show ¬ 0 ≤ h.depth by omega)]
      simp only [Bool.false_and, Bool.and_false]
      exact Tr.tt (decide_eq_true h0) Tr.val
    refine Tr.ff (decide_eq_false h0) ?_
    by_cases h3 : 3 < h.depth
    · rw [decide_eq_false (show ¬ h.depth ≤ 3 by omega)]
      simp only [Bool.false_and, Bool.and_false]
      exact Tr.tt (decide_eq_true h3) Tr.val
    refine Tr.ff (decide_eq_false h3) (Tr.bind (l3Is_tr _ f1 (by omega)) ?_)
    rw [decide_eq_true (show 0 ≤ h.depth by omega), decide_eq_true (show h.depth ≤ 3 by omega), Bool.true_and, Bool.true_and]
    cases isNm h.name with
    | false => exact Tr.tt rfl Tr.val
    | true =>
    refine Tr.ff rfl ?_
    cases decide (h.name.name = dotsN) with
    | true => exact Tr.tt rfl Tr.val
    | false =>
    refine Tr.ff rfl ?_
    cases decide (h.name.name = underN) with
    | true => exact Tr.tt rfl Tr.val
    | false =>
    refine Tr.ff rfl ?_
    simp only [Bool.not_false, Bool.true_and]
    cases hz : decide (h.depth = 0) with
    | true =>
      refine Tr.tt rfl (Tr.bind (specFormValid_tr _ f2 (by omega)) ?_)
      cases h.one.valid with
      | false => exact Tr.ff rfl Tr.val
      | true => exact Tr.tt rfl Tr.val
    | false =>
    refine Tr.ff rfl ?_
    rw [cond_false]
    have key := drop_ind h.many (fun k zs => Tr (fun m => m_spec_l4Hit_l1 m h h.depth (k : Int)) (alls (fun x => same x.name h.name && (decide (x.depth = h.depth - 1) && x.isOk)) zs && (same h.one form0 && decide ((h.many.length : Int) ≤ 400)))) ?_ ?_ 0 (Nat.zero_le _)
    · have e : (same h.one form0 && (decide ((h.many.length : Int) ≤ 400) && alls (fun x => same x.name h.name && (decide (x.depth = h.depth - 1) && x.isOk)) h.many)) = (alls (fun x => same x.name h.name && (decide (x.depth = h.depth - 1) && x.isOk)) h.many && (same h.one form0 && decide ((h.many.length : Int) ≤ 400))) := by
        rw [← Bool.and_assoc, Bool.and_comm]
      rw [e]
      simpa using key
    · refine Tr.step (fun m => by rw [m_spec_l4Hit_l1, ltN_self, cond_false]) (Tr.bind (specFormSame_tr _ _) ?_)
      rw [alls, Bool.true_and]
      cases same h.one form0 with
      | false => exact Tr.ff rfl Tr.val
      | true => exact Tr.tt rfl Tr.val
    · intro k x zs hk hx hdr ihk
      have hm := List.mem_of_getElem? hx
      refine Tr.step (fun m => by rw [m_spec_l4Hit_l1, ltN hk, cond_true, idx_nat hx, Option.bind_some, succN]) (Tr.bind (specFormSame_tr _ _) ?_)
      rw [alls]
      cases same x.name h.name with
      | false => exact Tr.tt rfl Tr.val
      | true =>
      refine Tr.ff rfl (Tr.eq (fun m => by rw [Option.bind_some, w64_in (by omega)]) ?_)
      refine Tr.bind (ih x (h.depth - 1) (by have := Hit.ws_mem hm; omega) (by have := Hit.ws_mem hm; omega) (Hit.fits_mem f4 hm)) ?_
      rw [Bool.true_and]
      cases (decide (x.depth = h.depth - 1) && x.isOk) with
      | false => exact Tr.tt rfl Tr.val
      | true => exact Tr.ff rfl (by simpa using ihk)
noncomputable def hvF : List Hit → List Hit → Bool
  | _, [] => true
  | ps, x :: xs => x.isOk && (alls (fun y => !same y.name x.name) ps && hvF (ps ++ [x]) xs)
noncomputable def hvOk (l : List Hit) : Bool := hvF [] l && decide ((l.length : Int) ≤ 20)
theorem take_succ' {α : Type} {l : List α} {k : Nat} {x : α} (h : l[k]? = some x) : l.take (k + 1) = l.take k ++ [x] := by
  rw [List.take_add_one, h]; rfl
theorem sub_take {α : Type} {l : List α} {k : Nat} (h : k ≤ l.length) : sub l 0 (k : Int) = some (l.take k) := by
  unfold sub
  rw [show (decide ((0 : Int) ≤ 0) && decide ((0 : Int) ≤ k) && decide ((k : Int) ≤ l.length)) = true by simp; omega, cond_true]
  simp
theorem implHitsValid_tr (l : List Hit) (hf : Hit.fits l) : Tr (fun m => m_impl_HitsValid m l) (hvOk l) := by
  refine Tr.eq (fun m => by unfold m_impl_HitsValid; rfl) ?_
  have key := drop_ind l (fun k zs => Tr (fun m => m_impl_HitsValid_l1 m l (k : Int)) (hvF (l.take k) zs && decide ((l.length : Int) ≤ 20))) ?_ ?_ 0 (Nat.zero_le _)
  · simpa [hvOk] using key
  · exact Tr.step (fun m => by rw [m_impl_HitsValid_l1, ltN_self, cond_false, hvF, Bool.true_and]) Tr.val
  · intro k x zs hk hx hd ih
    have hm := List.mem_of_getElem? hx
    rw [take_succ' hx] at ih
    refine Tr.step (fun m => by rw [m_impl_HitsValid_l1, ltN hk, cond_true, idx_nat hx, Option.bind_some, succN]) (Tr.bind (hitOk_tr x (Hit.fits_mem hf hm)) ?_)
    rw [hvF]
    cases x.isOk with
    | false => exact Tr.tt rfl Tr.val
    | true =>
    refine Tr.ff rfl (Tr.eq (fun m => by rw [sub_take (by omega), Option.bind_some]) ?_)
    refine Tr.bind (v := fnd (fun y => same y.name x.name) (l.take k) 0) ?_ ?_
    · refine Tr.eq (fun m => by unfold m_impl_hitAt; rfl) (Tr.bind ?_ Tr.val)
      refine Tr.eq (fun m => by unfold m_slices_IndexFunc_Hit_hitAt_1; rfl) ?_
      exact loop_find (xs := l.take k) (L := fun m j => m_slices_IndexFunc_Hit_hitAt_1_l1 m (l.take k) x.name j) (E := fun m y => m_impl_hitAt_1 m y x.name) (fun m j => by rw [m_slices_IndexFunc_Hit_hitAt_1_l1]) (fun y _ => Tr.eq (fun m => by unfold m_impl_hitAt_1; rfl) (Tr.bind (implFormSame_tr _ _) Tr.val))
    · have e := fnd_none (D := fun y : Hit => same y.name x.name) (l := l.take k) (k := 0)
      cases ha : alls (fun y => !same y.name x.name) (l.take k) with
      | false => rw [ha] at e; exact Tr.tt e Tr.val
      | true => rw [ha] at e; exact Tr.ff e (by simpa using ih)
theorem specHitsValid_tr (l : List Hit) (hf : Hit.fits l) (hb : Hit.ws l ≤ 2 ^ 36) : Tr (fun m => m_spec_HitsValid m l) (hvOk l) := by
  refine Tr.eq (fun m => by unfold m_spec_HitsValid; rfl) ?_
  have hlen := Hit.ws_len l
  have key := drop_ind l (fun k zs => Tr (fun m => m_spec_HitsValid_l1 m l (k : Int)) (hvF (l.take k) zs && decide ((l.length : Int) ≤ 20))) ?_ ?_ 0 (Nat.zero_le _)
  · simpa [hvOk] using key
  · exact Tr.step (fun m => by rw [m_spec_HitsValid_l1, ltN_self, cond_false, hvF, Bool.true_and]) Tr.val
  · intro k x zs hk hx hd ih
    have hm := List.mem_of_getElem? hx
    rw [take_succ' hx] at ih
    refine Tr.step (fun m => by rw [m_spec_HitsValid_l1, ltN hk, cond_true]) ?_
    by_cases h20 : k ≤ 20
    case neg =>
      refine Tr.ff (decide_eq_false (by omega)) (Tr.of fun m => ?_)
      rw [decide_eq_false (show ¬ (l.length : Int) ≤ 20 by omega), Bool.and_false]
    refine Tr.tt (decide_eq_true (by omega)) (Tr.eq (fun m => by rw [idx_nat hx, Option.bind_some, Option.bind_some]) ?_)
    refine Tr.bind (l4Hit_n _ x x.depth (Nat.le_refl _) (by have := Hit.ws_mem hm; omega) (Hit.fits_mem hf hm)) ?_
    rw [decide_eq_true rfl, Bool.true_and, hvF]
    cases x.isOk with
    | false => exact Tr.tt rfl Tr.val
    | true =>
    refine Tr.ff rfl ?_
    have htl : (l.take k).length = k := by simp; omega
    have inner := drop_ind (l.take k) (fun j ws => Tr (fun m => m_spec_HitsValid_l2 m l (k : Int) (j : Int)) (alls (fun y => !same y.name x.name) ws && (hvF (l.take k ++ [x]) zs && decide ((l.length : Int) ≤ 20)))) ?_ ?_ 0 (Nat.zero_le _)
    · rw [Bool.true_and, Bool.and_assoc]; simpa using inner
    · rw [htl]
      exact Tr.step (fun m => by rw [m_spec_HitsValid_l2, ltN_self, cond_false, w64_in (by omega), succN]) (by simpa [alls] using ih)
    · intro j y ws hj hy hdj ihj
      rw [htl] at hj
      have hy' : l[j]? = some y := by
        rw [List.getElem?_take] at hy
        rwa [if_pos hj] at hy
      refine Tr.step (fun m => by rw [m_spec_HitsValid_l2, ltN hj, cond_true, idx_nat hy', Option.bind_some, idx_nat hx, Option.bind_some, w64_in (by omega), succN]) (Tr.bind (specFormSame_tr _ _) ?_)
      rw [alls]
      cases same y.name x.name with
      | true => exact Tr.tt rfl Tr.val
      | false => exact Tr.ff rfl (by simpa using ihj)
end Go.Abs
end
section
set_option linter.unusedVariables false
set_option linter.unusedSimpArgs false
namespace Go.Abs
def isDots (f : Form) : Bool := decide (f.kind = 1) && decide (f.name = dotsN)
theorem named_tr (f : Form) (s : ByteArray) : Tr (fun m => m_impl_named m f s) (decide (f.kind = 1) && decide (f.name = s)) :=
  Tr.of (fun m => by unfold m_impl_named; rw [bif_and])
theorem l4Dots_tr (f : Form) : Tr (fun m => m_spec_l4Dots m f) (isDots f) :=
  Tr.of (fun m => by unfold m_spec_l4Dots isDots; rw [bif_and])
noncomputable def depF : List (Form × Int) → Form → Int
  | [], _ => -1
  | p :: ps, f => bif same p.1 f then p.2 else depF ps f
noncomputable def dep (l : List (Form × Int)) (f : Form) : Int := bif decide (f.kind ≠ 1) then -1 else depF l f
theorem fnd_dep (f : Form) : ∀ (l : List (Form × Int)) (k : Nat), (fnd (fun y => same y f) (l.map (·.1)) k = -1 ∧ depF l f = -1) ∨ (∃ i, fnd (fun y => same y f) (l.map (·.1)) k = ((k + i : Nat) : Int) ∧ (l.map (·.2))[i]? = some (depF l f))
  | [], k => .inl ⟨rfl, rfl⟩
  | p :: ps, k => by
    rw [List.map_cons, fnd, depF]
    cases h : same p.1 f with
    | true => exact .inr ⟨0, rfl, rfl⟩
    | false =>
      simp only [cond_false]
      rcases fnd_dep f ps (k + 1) with h | ⟨i, h1, h2⟩
      · exact .inl h
      · exact .inr ⟨i + 1, by rw [h1]; omega, by simpa using h2⟩
theorem depthIn_tr (l : List (Form × Int)) (f : Form) : Tr (fun m => m_impl_depthIn m (l.map (·.1)) (l.map (·.2)) f) (dep l f) := by
  refine Tr.eq (fun m => by unfold m_impl_depthIn; rfl) ?_
  unfold dep
  cases decide (f.kind ≠ 1) with
  | true => exact Tr.tt rfl Tr.val
  | false =>
  refine Tr.ff rfl (Tr.bind (v := fnd (fun y => same y f) (l.map (·.1)) 0) ?_ ?_)
  · refine Tr.eq (fun m => by unfold m_slices_IndexFunc_Form_depthIn_1; rfl) ?_
    exact loop_find (L := fun m j => m_slices_IndexFunc_Form_depthIn_1_l1 m (l.map (·.1)) f j) (E := fun m y => m_impl_depthIn_1 m y f) (fun m j => by rw [m_slices_IndexFunc_Form_depthIn_1_l1]) (fun y _ => Tr.eq (fun m => by unfold m_impl_depthIn_1; rfl) (Tr.bind (implFormSame_tr _ _) Tr.val))
  · rcases fnd_dep f l 0 with ⟨h1, h2⟩ | ⟨i, h1, h2⟩
    · rw [h1, h2]; exact Tr.tt rfl Tr.val
    · rw [h1, Nat.zero_add]
      exact Tr.ff (decide_eq_false (by omega)) (Tr.eq (fun m => by rw [idx_nat h2, Option.bind_some]; rfl) Tr.val)
def nd (l : List Hit) : List (Form × Int) := l.map fun h => (h.name, h.depth)
theorem nd_fst (l : List Hit) : (nd l).map (·.1) = l.map Hit.name := by simp [nd]
theorem nd_snd (l : List Hit) : (nd l).map (·.2) = l.map Hit.depth := by simp [nd]
theorem fnd_map {α β : Type} (g : α → β) (D : β → Bool) : ∀ (l : List α) (k : Nat), fnd D (l.map g) k = fnd (fun x => D (g x)) l k
  | [], k => rfl
  | x :: xs, k => by rw [List.map_cons, fnd, fnd, fnd_map g D xs]
theorem l5Depth_tr (l : List Hit) (f : Form) : Tr (fun m => m_spec_l5Depth m l f) (dep (nd l) f) := by
  refine Tr.eq (fun m => by unfold m_spec_l5Depth; rfl) ?_
  unfold dep
  cases decide (f.kind ≠ 1) with
  | true => exact Tr.tt rfl Tr.val
  | false =>
  refine Tr.ff rfl (Tr.bind (v := fnd (fun y => same y f) ((nd l).map (·.1)) 0) ?_ ?_)
  · refine Tr.eq (fun m => by unfold m_spec_l4Find; rfl) ?_
    rw [nd_fst, fnd_map]
    exact loop_find (L := fun m j => m_spec_l4Find_l1 m l f j) (E := fun m y => m_spec_FormSame m y.name f) (fun m j => by rw [m_spec_l4Find_l1]) (fun y _ => specFormSame_tr _ _)
  · rcases fnd_dep f (nd l) 0 with ⟨h1, h2⟩ | ⟨i, h1, h2⟩
    · rw [h1, h2]; exact Tr.tt rfl Tr.val
    · rw [h1, Nat.zero_add]
      rw [nd_snd, List.getElem?_map, Option.map_eq_some_iff] at h2
      obtain ⟨y, hy, h2⟩ := h2
      exact Tr.ff (decide_eq_false (by omega)) (Tr.eq (fun m => by rw [idx_nat hy, Option.bind_some, h2]; rfl) Tr.val)
def nextD : List Form → Bool
  | [] => false
  | y :: _ => isDots y
mutual
def Form.dotsOk (one : Bool) : Form → Bool
  | .mk _ _ _ _ kids => Form.kD one true false kids
def Form.kD (one : Bool) : Bool → Bool → List Form → Bool
  | _, _, [] => true
  | pd, sn, x :: xs => (bif isDots x then (!pd && !(one && sn)) else x.dotsOk one) && Form.kD one (isDots x) (sn || isDots x) xs
end
theorem Form.dotsOk_eq (one : Bool) (f : Form) : f.dotsOk one = Form.kD one true false f.kids := by obtain ⟨a, b, c, d, e⟩ := f; rw [Form.dotsOk]; rfl
def pdAt (l : List Form) : Nat → Bool
  | 0 => true
  | j + 1 => match l[j]? with
    | some y => isDots y
    | none => true
theorem pd_succ {l : List Form} {k : Nat} {x : Form} (h : l[k]? = some x) : pdAt l (k + 1) = isDots x := by rw [pdAt, h]
theorem dotsOk_n (one : Bool) : ∀ (n : Nat) (f : Form), f.w ≤ n → f.w ≤ 2 ^ 36 → Tr (fun m => m_impl_dotsOk m f one) (f.dotsOk one) := by
  intro n
  induction n with
  | zero => intro a h; have := a.w_pos; omega
  | succ n ih =>
    intro f h hb
    have hw := f.w_kids
    have hlen := Form.ws_len f.kids
    rw [Form.dotsOk_eq]
    refine Tr.step (fun m => by rw [m_impl_dotsOk]) ?_
    have key := drop_ind f.kids (fun k zs => Tr (fun m => m_impl_dotsOk_l1 m f one (k : Int)) (Form.kD one (pdAt f.kids k) (!alls (fun y => !isDots y) (f.kids.take k)) zs)) ?_ ?_ 0 (Nat.zero_le _)
    · simpa [pdAt, alls] using key
    · exact Tr.step (fun m => by rw [m_impl_dotsOk_l1, ltN_self, cond_false, Form.kD]) Tr.val
    · intro k x zs hk hx hd ihk
      have hm := List.mem_of_getElem? hx
      have hxw := Form.ws_mem hm
      rw [pd_succ hx, take_succ' hx] at ihk
      have ea : ∀ l : List Form, (!alls (fun y => !isDots y) (l ++ [x])) = ((!alls (fun y => !isDots y) l) || isDots x) := by
        intro l
        induction l with
        | nil => simp [alls]
        | cons y l ihl => rw [List.cons_append, alls, alls, Bool.not_and, ihl, Bool.not_and, Bool.or_assoc]
      rw [ea] at ihk
      refine Tr.step (fun m => by rw [m_impl_dotsOk_l1, ltN hk, cond_true, idx_nat hx, Option.bind_some, succN]) (Tr.bind (named_tr _ _) ?_)
      rw [show (decide (x.kind = 1) && decide (x.name = (⟨#[46, 46, 46]⟩ : ByteArray))) = isDots x from rfl, Form.kD]
      cases hxd : isDots x with
      | false =>
        rw [hxd] at ihk
        refine Tr.ff rfl (Tr.bind (ih x (by omega) (by omega)) ?_)
        rw [cond_false]
        cases x.dotsOk one with
        | false => exact Tr.tt rfl Tr.val
        | true => exact Tr.ff rfl (by simpa using ihk)
      | true =>
        rw [hxd] at ihk
        refine Tr.tt rfl ?_
        rw [cond_true]
        cases k with
        | zero => exact Tr.tt rfl Tr.val
        | succ j =>
          have hj : f.kids[j]? = some f.kids[j] := List.getElem?_eq_getElem (by omega)
          refine Tr.ff (decide_eq_false (by omega)) (Tr.eq (fun m => by rw [w64_in (by omega), show ((j + 1 : Nat) : Int) - 1 = (j : Int) by omega, idx_nat hj, Option.bind_some]) (Tr.bind (named_tr _ _) ?_))
          rw [show (decide (f.kids[j].kind = 1) && decide (f.kids[j].name = (⟨#[46, 46, 46]⟩ : ByteArray))) = isDots f.kids[j] from rfl, pd_succ hj]
          cases isDots f.kids[j] with
          | true => exact Tr.tt rfl Tr.val
          | false =>
          refine Tr.ff rfl ?_
          cases one with
          | false => exact Tr.ff rfl (by simpa using ihk)
          | true =>
            refine Tr.tt rfl (Tr.eq (fun m => by rw [sub_take (by omega), Option.bind_some]) ?_)
            refine Tr.bind (v := fnd isDots (f.kids.take (j + 1)) 0) ?_ ?_
            · refine Tr.eq (fun m => by unfold m_impl_dotsAt; rfl) (Tr.bind ?_ Tr.val)
              refine Tr.eq (fun m => by unfold m_slices_IndexFunc_Form_dotsAt_1; rfl) ?_
              exact loop_find (L := fun m i => m_slices_IndexFunc_Form_dotsAt_1_l1 m (f.kids.take (j + 1)) i) (E := fun m y => m_impl_dotsAt_1 m y) (fun m i => by rw [m_slices_IndexFunc_Form_dotsAt_1_l1]) (fun y _ => Tr.eq (fun m => by unfold m_impl_dotsAt_1; rfl) (Tr.bind (named_tr _ _) Tr.val))
            · have e := fnd_none (D := isDots) (l := f.kids.take (j + 1)) (k := 0)
              cases ha : alls (fun y => !isDots y) (f.kids.take (j + 1)) with
              | false => rw [ha] at e; exact Tr.tt e Tr.val
              | true => rw [ha] at e ihk; exact Tr.ff e (by simpa using ihk)
theorem dotsOk_tr (one : Bool) (f : Form) (hb : f.w ≤ 2 ^ 36) : Tr (fun m => m_impl_dotsOk m f one) (f.dotsOk one) := dotsOk_n one _ f (Nat.le_refl _) hb
end Go.Abs
end
section
set_option linter.unusedVariables false
set_option linter.unusedSimpArgs false
namespace Go.Abs
mutual
noncomputable def Form.anyD (l : List (Form × Int)) (v : Int) : Form → Bool
  | .mk k nm n sc kids => decide (v < dep l (.mk k nm n sc kids)) || Form.anyDs l v kids
noncomputable def Form.anyDs (l : List (Form × Int)) (v : Int) : List Form → Bool
  | [] => false
  | x :: xs => x.anyD l v || Form.anyDs l v xs
end
theorem Form.anyD_eq (l : List (Form × Int)) (v : Int) (f : Form) : f.anyD l v = (decide (v < dep l f) || Form.anyDs l v f.kids) := by obtain ⟨a, b, c, d, e⟩ := f; rw [Form.anyD]; rfl
theorem each_n (l : List (Form × Int)) (v : Int) : ∀ (n : Nat) (f : Form) (b : Bool), f.w ≤ n → Tr (fun m => m_impl_eachForm_rowsOk_1 m f b (l.map (·.1)) (l.map (·.2)) v) (b || f.anyD l v) := by
  intro n
  induction n with
  | zero => intro a b h; have := a.w_pos; omega
  | succ n ih =>
    intro f b h
    have hw := f.w_kids
    rw [Form.anyD_eq]
    refine Tr.step (fun m => by rw [m_impl_eachForm_rowsOk_1]) (Tr.bind (v := b || decide (v < dep l f)) ?_ ?_)
    · refine Tr.eq (fun m => by unfold m_impl_rowsOk_1; rfl) ?_
      cases b with
      | true => exact Tr.tt rfl Tr.val
      | false => exact Tr.ff rfl (Tr.bind (depthIn_tr l f) Tr.val)
    · have key := drop_ind f.kids (fun k zs => ∀ b : Bool, Tr (fun m => m_impl_eachForm_rowsOk_1_l1 m f (l.map (·.1)) (l.map (·.2)) v (k : Int) b) (b || Form.anyDs l v zs)) ?_ ?_ 0 (Nat.zero_le _) (b || decide (v < dep l f))
      · rw [← Bool.or_assoc]; simpa using key
      · intro b; exact Tr.step (fun m => by rw [m_impl_eachForm_rowsOk_1_l1, ltN_self, cond_false, Form.anyDs, Bool.or_false]) Tr.val
      · intro k x zs hk hx hd ihk b
        have hm := Form.ws_mem (List.mem_of_getElem? hx)
        refine Tr.step (fun m => by rw [m_impl_eachForm_rowsOk_1_l1, ltN hk, cond_true, idx_nat hx, Option.bind_some, succN]) (Tr.bind (ih x b (by omega)) ?_)
        rw [Form.anyDs, ← Bool.or_assoc]
        exact ihk _
def lessI (k : Nat) (d : Int) : Int := bif decide (0 < d) then (bif decide ((k : Int) < d) then d - k else 0) else d
theorem lessI_pos (k : Nat) (d : Int) : (0 < lessI k d) ↔ (k : Int) < d := by
  unfold lessI
  by_cases h : 0 < d
  · rw [decide_eq_true h, cond_true]
    by_cases h2 : (k : Int) < d
    · rw [decide_eq_true h2, cond_true]; omega
    · rw [decide_eq_false h2, cond_false]; omega
  · rw [decide_eq_false h, cond_false]; omega
theorem lessI_succ (k : Nat) (d : Int) : lessI (k + 1) d = bif decide (0 < lessI k d) then lessI k d - 1 else lessI k d := by
  unfold lessI
  by_cases h : 0 < d
  · rw [decide_eq_true h, cond_true, cond_true]
    by_cases h2 : (k : Int) < d
    · rw [decide_eq_true h2, cond_true, decide_eq_true (show 0 < d - (k : Int) by omega), cond_true]
      by_cases h3 : ((k + 1 : Nat) : Int) < d
      · rw [decide_eq_true h3, cond_true]; omega
      · rw [decide_eq_false h3, cond_false]; omega
    · rw [decide_eq_false h2, cond_false, decide_eq_false (show ¬ ((k + 1 : Nat) : Int) < d by omega), cond_false]; rfl
  · rw [decide_eq_false h, cond_false, cond_false, decide_eq_false h, cond_false]
theorem lessI_zero (d : Int) : lessI 0 d = d := by
  unfold lessI
  by_cases h : 0 < d
  · rw [decide_eq_true h, cond_true, decide_eq_true (show ((0 : Nat) : Int) < d by omega), cond_true]; omega
  · rw [decide_eq_false h, cond_false]
def rowOf (h : Hit) : Hit := Hit.mk h.name (bif decide (0 < h.depth) then h.depth - 1 else h.depth) h.one ([] : List Hit)
theorem l5Less_tr (l : List Hit) (hl : l.length ≤ 2 ^ 36) (hd : ∀ h ∈ l, -9223372036854775808 ≤ h.depth ∧ h.depth ≤ 9223372036854775807) : Tr (fun m => m_spec_l5Less m l) (l.map rowOf) := by
  refine Tr.eq (fun m => by unfold m_spec_l5Less; rfl) ?_
  have key := drop_ind l (fun k zs => Tr (fun m => m_spec_l5Less_l1 m l ((l.take k).map rowOf) (k : Int)) (l.map rowOf)) ?_ ?_ 0 (Nat.zero_le _)
  · simpa using key
  · exact Tr.step (fun m => by rw [m_spec_l5Less_l1, ltN_self, cond_false]; simp) Tr.val
  · intro k x zs hk hx hdr ih
    have hlk : ((l.take k).map rowOf).length = k := by simp; omega
    rw [take_succ' hx, List.map_append] at ih
    obtain ⟨d1, d2⟩ := hd x (List.mem_of_getElem? hx)
    refine Tr.step (fun m => by rw [m_spec_l5Less_l1, ltN hk, cond_true, idx_nat hx, Option.bind_some, Option.bind_some, Option.bind_some, succN]) ?_
    by_cases h : 0 < x.depth
    · refine Tr.tt (decide_eq_true h) (Tr.chk (decide_eq_true (by rw [hlk]; simp only [List.length_cons, List.length_nil]; omega)) ?_)
      rw [show List.map rowOf [x] = [Hit.mk x.name (x.depth - 1) x.one []] by simp [rowOf, h]] at ih
      exact Tr.eq (fun m => by rw [w64_in (by omega)]) ih
    · refine Tr.ff (decide_eq_false h) (Tr.chk (decide_eq_true (by rw [hlk]; simp only [List.length_cons, List.length_nil]; omega)) ?_)
      rw [show List.map rowOf [x] = [Hit.mk x.name x.depth x.one []] by simp [rowOf, h]] at ih
      exact ih
theorem depF_row (f : Form) : ∀ l : List Hit, depF (nd (l.map rowOf)) f = bif decide (0 < depF (nd l) f) then depF (nd l) f - 1 else depF (nd l) f
  | [] => rfl
  | h :: hs => by
    have ih := depF_row f hs
    simp only [nd, List.map_cons, List.map_map] at ih ⊢
    rw [depF, depF]
    show (bif same h.name f then _ else _) = _
    simp only
    cases same h.name f with
    | true => rfl
    | false => simp only [cond_false]; exact ih
theorem dep_row (f : Form) (l : List Hit) : dep (nd (l.map rowOf)) f = bif decide (0 < dep (nd l) f) then dep (nd l) f - 1 else dep (nd l) f := by
  unfold dep
  cases decide (f.kind ≠ 1) with
  | true => rfl
  | false => simp only [cond_false]; exact depF_row f l
structure RowK (k : Nat) (l' l : List Hit) : Prop where
  dep : ∀ f, Abs.dep (nd l') f = lessI k (Abs.dep (nd l) f)
  len : l'.length = l.length
  fit : ∀ h ∈ l', -9223372036854775808 ≤ h.depth ∧ h.depth ≤ 9223372036854775807
theorem RowK.zero {l : List Hit} (h : ∀ h ∈ l, -9223372036854775808 ≤ h.depth ∧ h.depth ≤ 9223372036854775807) : RowK 0 l l := ⟨fun f => (lessI_zero _).symm, rfl, h⟩
theorem RowK.succ {k : Nat} {l' l : List Hit} (h : RowK k l' l) : RowK (k + 1) (l'.map rowOf) l := by
  refine ⟨fun f => by rw [dep_row, h.dep f, lessI_succ], by rw [List.length_map, h.len], fun y hy => ?_⟩
  obtain ⟨x, hx, rfl⟩ := List.mem_map.1 hy
  obtain ⟨h1, h2⟩ := h.fit x hx
  show -9223372036854775808 ≤ (bif decide (0 < x.depth) then x.depth - 1 else x.depth) ∧ (bif decide (0 < x.depth) then x.depth - 1 else x.depth) ≤ 9223372036854775807
  by_cases h0 : 0 < x.depth
  · rw [decide_eq_true h0, cond_true]; omega
  · rw [decide_eq_false h0, cond_false]; exact ⟨h1, h2⟩
theorem RowK.pos {k : Nat} {l' l : List Hit} (h : RowK k l' l) (f : Form) : decide (0 < Abs.dep (nd l') f) = decide ((k : Int) < Abs.dep (nd l) f) := by
  rw [h.dep f, Bool.eq_iff_iff, decide_eq_true_iff, decide_eq_true_iff]; exact lessI_pos k _
theorem l5Rows_n {k : Nat} {l' l : List Hit} (hr : RowK k l' l) : ∀ (n : Nat) (f : Form), f.w ≤ n → Tr (fun m => m_spec_l5Rows m l' f) (f.anyD (nd l) k) := by
  intro n
  induction n with
  | zero => intro a h; have := a.w_pos; omega
  | succ n ih =>
    intro f h
    have hw := f.w_kids
    rw [Form.anyD_eq]
    refine Tr.step (fun m => by rw [m_spec_l5Rows]) (Tr.bind (l5Depth_tr l' f) ?_)
    rw [← hr.pos f]
    cases h0 : decide (0 < Abs.dep (nd l') f) with
    | true => exact Tr.tt rfl Tr.val
    | false =>
    refine Tr.ff rfl ?_
    rw [Bool.false_or]
    have key := drop_ind f.kids (fun j zs => Tr (fun m => m_spec_l5Rows_l1 m l' f (j : Int)) (Form.anyDs (nd l) k zs)) ?_ ?_ 0 (Nat.zero_le _)
    · simpa using key
    · exact Tr.step (fun m => by rw [m_spec_l5Rows_l1, ltN_self, cond_false, Form.anyDs]) Tr.val
    · intro j x zs hk hx hd ihk
      have hm := Form.ws_mem (List.mem_of_getElem? hx)
      refine Tr.step (fun m => by rw [m_spec_l5Rows_l1, ltN hk, cond_true, idx_nat hx, Option.bind_some, succN]) (Tr.bind (ih x (by omega)) ?_)
      rw [Form.anyDs]
      cases x.anyD (nd l) k with
      | true => exact Tr.tt rfl Tr.val
      | false => exact Tr.ff rfl ihk
mutual
noncomputable def Form.rws (l : List (Form × Int)) : Nat → Form → Bool
  | v, .mk k nm n sc kids => !decide ((v : Int) < dep l (.mk k nm n sc kids)) && Form.kR l v kids
noncomputable def Form.kR (l : List (Form × Int)) : Nat → List Form → Bool
  | _, [] => true
  | v, x :: xs => (bif isDots x then true else bif nextD xs then (x.anyD l v && x.rws l (v + 1)) else x.rws l v) && Form.kR l v xs
end
theorem Form.rws_eq (l : List (Form × Int)) (v : Nat) (f : Form) : f.rws l v = (!decide ((v : Int) < dep l f) && Form.kR l v f.kids) := by obtain ⟨a, b, c, d, e⟩ := f; rw [Form.rws]; rfl
theorem next_get {l : List Form} {k : Nat} {x : Form} {zs : List Form} (hd : l.drop k = x :: zs) : (zs = [] ∧ l.length = k + 1) ∨ (∃ y ys, zs = y :: ys ∧ l[k + 1]? = some y ∧ k + 1 < l.length) := by
  have hl : l.length = k + (x :: zs).length := by
    have := congrArg List.length hd
    rw [List.length_drop] at this
    have : (x :: zs).length ≠ 0 := by simp
    omega
  cases zs with
  | nil => exact .inl ⟨rfl, by simpa using hl⟩
  | cons y ys =>
    refine .inr ⟨y, ys, rfl, ?_, by rw [hl]; simp⟩
    have : (l.drop k)[1]? = some y := by rw [hd]; rfl
    rwa [List.getElem?_drop] at this
theorem rowsOk_n (l : List (Form × Int)) : ∀ (n : Nat) (f : Form) (v : Nat), f.w ≤ n → f.w + v ≤ 2 ^ 37 → Tr (fun m => m_impl_rowsOk m f (l.map (·.1)) (l.map (·.2)) (v : Int)) (f.rws l v) := by
  intro n
  induction n with
  | zero => intro a v h; have := a.w_pos; omega
  | succ n ih =>
    intro f v h hb
    have hw := f.w_kids
    have hlen := Form.ws_len f.kids
    rw [Form.rws_eq]
    refine Tr.step (fun m => by rw [m_impl_rowsOk]) (Tr.bind (depthIn_tr l f) ?_)
    cases h0 : decide ((v : Int) < dep l f) with
    | true => exact Tr.tt rfl Tr.val
    | false =>
    refine Tr.ff rfl ?_
    rw [Bool.not_false, Bool.true_and]
    have key := drop_ind f.kids (fun k zs => Tr (fun m => m_impl_rowsOk_l1 m f (l.map (·.1)) (l.map (·.2)) (v : Int) (k : Int)) (Form.kR l v zs)) ?_ ?_ 0 (Nat.zero_le _)
    · simpa using key
    · exact Tr.step (fun m => by rw [m_impl_rowsOk_l1, ltN_self, cond_false, Form.kR]) Tr.val
    · intro k x zs hk hx hd ihk
      have hm := Form.ws_mem (List.mem_of_getElem? hx)
      refine Tr.step (fun m => by rw [m_impl_rowsOk_l1, ltN hk, cond_true, idx_nat hx, Option.bind_some, succN]) (Tr.bind (named_tr _ _) ?_)
      rw [show (decide (x.kind = 1) && decide (x.name = (⟨#[46, 46, 46]⟩ : ByteArray))) = isDots x from rfl, Form.kR]
      cases isDots x with
      | true => exact Tr.tt rfl ihk
      | false =>
      refine Tr.ff rfl ?_
      rw [cond_false]
      have plain : Tr (fun m => (m_impl_rowsOk m x (l.map (·.1)) (l.map (·.2)) (v : Int)).bind fun v20 => bif (!v20) then some false else m_impl_rowsOk_l1 m f (l.map (·.1)) (l.map (·.2)) (v : Int) ((k + 1 : Nat) : Int)) (x.rws l v && Form.kR l v zs) := by
        refine Tr.bind (ih x v (by omega) (by omega)) ?_
        cases x.rws l v with
        | false => exact Tr.tt rfl Tr.val
        | true => exact Tr.ff rfl (by simpa using ihk)
      rcases next_get hd with ⟨rfl, hl⟩ | ⟨y, ys, rfl, hy, hl⟩
      · exact Tr.ff (decide_eq_false (by omega)) plain
      · refine Tr.tt (decide_eq_true (by omega)) (Tr.eq (fun m => by rw [idx_nat hy, Option.bind_some]) (Tr.bind (named_tr _ _) ?_))
        rw [show (decide (y.kind = 1) && decide (y.name = (⟨#[46, 46, 46]⟩ : ByteArray))) = isDots y from rfl, nextD]
        cases isDots y with
        | false => exact Tr.ff rfl plain
        | true =>
        refine Tr.tt rfl (Tr.bind (each_n l v _ x false (Nat.le_refl _)) ?_)
        rw [Bool.false_or, cond_true]
        cases x.anyD l v with
        | false => exact Tr.tt rfl Tr.val
        | true =>
        refine Tr.ff rfl (Tr.eq (fun m => by rw [w64_in (by omega), succN]) (Tr.bind (ih x (v + 1) (by omega) (by omega)) ?_))
        rw [Bool.true_and]
        cases x.rws l (v + 1) with
        | false => exact Tr.tt rfl Tr.val
        | true => exact Tr.ff rfl (by simpa using ihk)
mutual
noncomputable def Form.isT (l : List (Form × Int)) : Nat → Form → Bool
  | v, .mk k nm n sc kids => !isDots (.mk k nm n sc kids) && (!decide ((v : Int) < dep l (.mk k nm n sc kids)) && Form.kT l v true kids)
noncomputable def Form.kT (l : List (Form × Int)) : Nat → Bool → List Form → Bool
  | _, _, [] => true
  | v, pd, x :: xs => (bif isDots x then !pd else bif nextD xs then (x.anyD l v && x.isT l (v + 1)) else x.isT l v) && Form.kT l v (isDots x) xs
end
theorem Form.isT_eq (l : List (Form × Int)) (v : Nat) (f : Form) : f.isT l v = (!isDots f && (!decide ((v : Int) < dep l f) && Form.kT l v true f.kids)) := by obtain ⟨a, b, c, d, e⟩ := f; rw [Form.isT]; rfl
mutual
theorem Form.isT_two (l : List (Form × Int)) : ∀ (f : Form) (v : Nat), f.isT l v = (!isDots f && (f.dotsOk false && f.rws l v))
  | .mk k nm n sc kids, v => by
    have := Form.kT_two l kids v true false
    rw [Form.isT, Form.dotsOk, Form.rws, this]
    cases isDots (.mk k nm n sc kids) <;> cases decide ((v : Int) < dep l (.mk k nm n sc kids)) <;> cases Form.kD false true false kids <;> rfl
theorem Form.kT_two (l : List (Form × Int)) : ∀ (zs : List Form) (v : Nat) (pd sn : Bool), Form.kT l v pd zs = (Form.kD false pd sn zs && Form.kR l v zs)
  | [], v, pd, sn => by rw [Form.kT, Form.kD, Form.kR]; rfl
  | x :: xs, v, pd, sn => by
    have h1 := Form.isT_two l x v
    have h2 := Form.isT_two l x (v + 1)
    have h3 := Form.kT_two l xs v (isDots x) (sn || isDots x)
    rw [Form.kT, Form.kD, Form.kR, h1, h2, h3]
    cases isDots x <;> cases nextD xs <;> cases pd <;> cases x.dotsOk false <;> cases x.anyD l v <;> cases x.rws l v <;> cases x.rws l (v + 1) <;> simp
end
theorem l5Is_n (l : List Hit) (hll : l.length ≤ 2 ^ 36) : ∀ (n : Nat) (f : Form) (v : Nat) (l' : List Hit), f.w ≤ n → f.w ≤ 2 ^ 36 → RowK v l' l → Tr (fun m => m_spec_l5Is m f l') (f.isT (nd l) v) := by
  intro n
  induction n with
  | zero => intro a v l' h; have := a.w_pos; omega
  | succ n ih =>
    intro f v l' h hb hr
    have hw := f.w_kids
    have hlen := Form.ws_len f.kids
    rw [Form.isT_eq]
    refine Tr.step (fun m => by rw [m_spec_l5Is]) (Tr.bind (l4Dots_tr f) ?_)
    cases isDots f with
    | true => exact Tr.tt rfl Tr.val
    | false =>
    refine Tr.ff rfl (Tr.bind (l5Depth_tr l' f) ?_)
    rw [← hr.pos f]
    cases h0 : decide (0 < Abs.dep (nd l') f) with
    | true => exact Tr.tt rfl Tr.val
    | false =>
    refine Tr.ff rfl ?_
    simp only [Bool.not_false, Bool.true_and]
    have key := drop_ind f.kids (fun k zs => Tr (fun m => m_spec_l5Is_l1 m f l' (k : Int)) (Form.kT (nd l) v (pdAt f.kids k) zs)) ?_ ?_ 0 (Nat.zero_le _)
    · simpa [pdAt] using key
    · exact Tr.step (fun m => by rw [m_spec_l5Is_l1, ltN_self, cond_false, Form.kT]) Tr.val
    · intro k x zs hk hx hd ihk
      have hm := Form.ws_mem (List.mem_of_getElem? hx)
      rw [pd_succ hx] at ihk
      refine Tr.step (fun m => by rw [m_spec_l5Is_l1, ltN hk, cond_true, idx_nat hx, Option.bind_some, succN]) (Tr.bind (l4Dots_tr x) ?_)
      rw [Form.kT]
      cases hxd : isDots x with
      | true =>
        rw [hxd] at ihk
        refine Tr.tt rfl ?_
        rw [cond_true]
        cases k with
        | zero => exact Tr.tt rfl Tr.val
        | succ j =>
          have hj : f.kids[j]? = some f.kids[j] := List.getElem?_eq_getElem (by omega)
          refine Tr.ff (decide_eq_false (by omega)) (Tr.eq (fun m => by rw [w64_in (by omega), show ((j + 1 : Nat) : Int) - 1 = (j : Int) by omega, idx_nat hj, Option.bind_some]) (Tr.bind (l4Dots_tr _) ?_))
          rw [pd_succ hj]
          cases isDots f.kids[j] with
          | true => exact Tr.tt rfl Tr.val
          | false => exact Tr.ff rfl (by simpa using ihk)
      | false =>
        rw [hxd] at ihk
        refine Tr.ff rfl ?_
        rw [cond_false]
        have plain : Tr (fun m => (m_spec_l5Is m x l').bind fun v28 => bif (!v28) then some false else m_spec_l5Is_l1 m f l' ((k + 1 : Nat) : Int)) (x.isT (nd l) v && Form.kT (nd l) v false zs) := by
          refine Tr.bind (ih x v l' (by omega) (by omega) hr) ?_
          cases x.isT (nd l) v with
          | false => exact Tr.tt rfl Tr.val
          | true => exact Tr.ff rfl (by simpa using ihk)
        rcases next_get hd with ⟨rfl, hl⟩ | ⟨y, ys, rfl, hy, hl⟩
        · exact Tr.ff (decide_eq_false (by omega)) (Tr.eq (fun m => by rw [Option.bind_some]) plain)
        · refine Tr.tt (decide_eq_true (by omega)) (Tr.eq (fun m => by rw [idx_nat hy, Option.bind_some]) (Tr.bind (l4Dots_tr y) ?_))
          rw [nextD]
          cases isDots y with
          | false => exact Tr.ff rfl (Tr.eq (fun m => by rw [Option.bind_some]) plain)
          | true =>
          refine Tr.tt rfl (Tr.eq (fun m => by rw [Option.bind_some]) (Tr.bind (l5Rows_n hr _ x (Nat.le_refl _)) ?_))
          rw [cond_true]
          cases x.anyD (nd l) v with
          | false => exact Tr.tt rfl Tr.val
          | true =>
          refine Tr.ff rfl (Tr.eq (fun m => by rw [Option.bind_some]) (Tr.bind (l5Less_tr l' (by rw [hr.len]; exact hll) hr.fit) (Tr.bind (ih x (v + 1) _ (by omega) (by omega) hr.succ) ?_)))
          rw [Bool.true_and]
          cases x.isT (nd l) (v + 1) with
          | false => exact Tr.tt rfl Tr.val
          | true => exact Tr.ff rfl (by simpa using ihk)
end Go.Abs
end
section
set_option linter.unusedVariables false
set_option linter.unusedSimpArgs false
namespace Go.Abs
theorem hvF_mem : ∀ {zs ps : List Hit}, hvF ps zs = true → ∀ x ∈ zs, x.isOk = true
  | z :: zs, ps, h, x, hx => by
    rw [hvF, Bool.and_eq_true, Bool.and_eq_true] at h
    rcases List.mem_cons.1 hx with rfl | hx
    · exact h.1
    · exact hvF_mem h.2.2 x hx
theorem hvOk_depth {l : List Hit} (h : hvOk l = true) : ∀ x ∈ l, 0 ≤ x.depth ∧ x.depth ≤ 3 := fun x hx => by
  unfold hvOk at h
  rw [Bool.and_eq_true] at h
  have := hvF_mem h.1 x hx
  rw [Hit.isOk_eq] at this
  simp only [Bool.and_eq_true, decide_eq_true_eq] at this
  exact this.2.2.2.1
noncomputable def tmplOk (f : Form) (l : List (Form × Int)) : Bool := f.valid && (!isDots f && (f.dotsOk false && f.rws l 0))
theorem templateOk_tr (f : Form) (l : List (Form × Int)) (hf : f.fit) (hb : f.w ≤ 2 ^ 36) : Tr (fun m => m_impl_templateOk m f (l.map (·.1)) (l.map (·.2))) (tmplOk f l) := by
  refine Tr.eq (fun m => by unfold m_impl_templateOk; rfl) (Tr.bind (implFormValid_tr f hf) ?_)
  unfold tmplOk
  cases f.valid with
  | false => exact Tr.ff rfl Tr.val
  | true =>
  refine Tr.tt rfl (Tr.bind (named_tr _ _) ?_)
  rw [show (decide (f.kind = 1) && decide (f.name = (⟨#[46, 46, 46]⟩ : ByteArray))) = isDots f from rfl]
  cases isDots f with
  | true => exact Tr.ff rfl Tr.val
  | false =>
  refine Tr.tt rfl (Tr.bind (dotsOk_tr false f hb) ?_)
  cases f.dotsOk false with
  | false => exact Tr.ff rfl Tr.val
  | true => exact Tr.tt rfl (Tr.bind (rowsOk_n l _ f 0 (Nat.le_refl _) (by omega)) Tr.val)
theorem hitVars_tr (l : List Hit) (hl : l.length ≤ 2 ^ 36) : Tr (fun m => m_impl_hitVars m l) (l.map Hit.name, l.map Hit.depth) := by
  refine Tr.eq (fun m => by unfold m_impl_hitVars; rfl) ?_
  have key := drop_ind l (fun k zs => Tr (fun m => m_impl_hitVars_l1 m l ((l.take k).map Hit.name) ((l.take k).map Hit.depth) (k : Int)) (l.map Hit.name, l.map Hit.depth)) ?_ ?_ 0 (Nat.zero_le _)
  · simpa using key
  · exact Tr.step (fun m => by rw [m_impl_hitVars_l1, ltN_self, cond_false]; simp) Tr.val
  · intro k x zs hk hx hd ih
    have e1 : ((l.take k).map Hit.name).length = k := by simp; omega
    have e2 : ((l.take k).map Hit.depth).length = k := by simp; omega
    rw [take_succ' hx, List.map_append, List.map_append] at ih
    refine Tr.step (fun m => by rw [m_impl_hitVars_l1, ltN hk, cond_true, idx_nat hx, Option.bind_some, succN]) ?_
    refine Tr.chk (decide_eq_true (by rw [e1]; simp only [List.length_cons, List.length_nil]; omega)) ?_
    refine Tr.chk (decide_eq_true (by rw [e2]; simp only [List.length_cons, List.length_nil]; omega)) ?_
    exact ih
theorem implTemplateValid_tr (f : Form) (l : List Hit) (hf : f.fit) (hb : f.w ≤ 2 ^ 36) (hl : Hit.fits l) (hlb : Hit.ws l ≤ 2 ^ 36) : Tr (fun m => m_impl_TemplateValid m f l) (hvOk l && tmplOk f (nd l)) := by
  have hlen := Hit.ws_len l
  refine Tr.eq (fun m => by unfold m_impl_TemplateValid; rfl) (Tr.bind (hitVars_tr l (by omega)) (Tr.bind (implHitsValid_tr l hl) ?_))
  cases hvOk l with
  | false => exact Tr.ff rfl Tr.val
  | true =>
    have := templateOk_tr f (nd l) hf hb
    rw [nd_fst, nd_snd] at this
    exact Tr.tt rfl (Tr.bind this Tr.val)
theorem specTemplateValid_tr (f : Form) (l : List Hit) (hf : f.fit) (hb : f.w ≤ 2 ^ 36) (hl : Hit.fits l) (hlb : Hit.ws l ≤ 2 ^ 36) : Tr (fun m => m_spec_TemplateValid m f l) (hvOk l && tmplOk f (nd l)) := by
  have hlen := Hit.ws_len l
  refine Tr.eq (fun m => by unfold m_spec_TemplateValid; rfl) (Tr.bind (specFormValid_tr f hf hb) ?_)
  unfold tmplOk
  cases f.valid with
  | false => rw [Bool.false_and, Bool.and_false]; exact Tr.ff rfl Tr.val
  | true =>
  refine Tr.tt rfl (Tr.bind (specHitsValid_tr l hl hlb) ?_)
  cases hv : hvOk l with
  | false => exact Tr.ff rfl Tr.val
  | true =>
  rw [Bool.true_and, Bool.true_and, ← Form.isT_two]
  refine Tr.tt rfl (Tr.bind ?_ Tr.val)
  exact l5Is_n l (by omega) _ f 0 l (Nat.le_refl _) hb (RowK.zero (fun h hh => by have := hvOk_depth hv h hh; omega))
end Go.Abs
end
section
set_option linter.unusedVariables false
set_option linter.unusedSimpArgs false
namespace Go.Abs
noncomputable def inF (l : List Form) (f : Form) : Bool := !alls (fun x => !same x f) l
def cntD : List Form → Nat
  | [] => 0
  | x :: xs => (bif isDots x then 1 else 0) + cntD xs
mutual
def Form.shp : Form → Bool
  | .mk k nm n sc kids => !isDots (.mk k nm n sc kids) && (Form.kP true kids && decide (cntD kids ≤ 1))
def Form.kP : Bool → List Form → Bool
  | _, [] => true
  | pd, x :: xs => (bif isDots x then !pd else x.shp) && Form.kP (isDots x) xs
end
theorem Form.shp_eq (f : Form) : f.shp = (!isDots f && (Form.kP true f.kids && decide (cntD f.kids ≤ 1))) := by obtain ⟨a, b, c, d, e⟩ := f; rw [Form.shp]; rfl
end Go.Abs
end
section
set_option linter.unusedVariables false
set_option linter.unusedSimpArgs false
namespace Go.Abs
noncomputable def isVarB (lits : List Form) (f : Form) : Bool := decide (f.kind = 1) && (!decide (f.name = dotsN) && (!decide (f.name = underN) && !inF lits f))
mutual
noncomputable def Form.vd (lits : List Form) : Nat → Form → List (Form × Int)
  | v, .mk k nm n sc kids => (bif isVarB lits (.mk k nm n sc kids) then [((Form.mk k nm n sc kids), (v : Int))] else []) ++ Form.kV lits v kids
noncomputable def Form.kV (lits : List Form) : Nat → List Form → List (Form × Int)
  | _, [] => []
  | v, x :: xs => (bif nextD xs then x.vd lits (v + 1) else x.vd lits v) ++ Form.kV lits v xs
end
mutual
noncomputable def Form.vs (lits : List Form) : Form → List Form
  | .mk k nm n sc kids => (bif isVarB lits (.mk k nm n sc kids) then [(Form.mk k nm n sc kids)] else []) ++ Form.kVs lits kids
noncomputable def Form.kVs (lits : List Form) : List Form → List Form
  | [] => []
  | x :: xs => x.vs lits ++ Form.kVs lits xs
end
theorem Form.vs_eq (lits : List Form) (f : Form) : f.vs lits = (bif isVarB lits f then [f] else []) ++ Form.kVs lits f.kids := by obtain ⟨a, b, c, d, e⟩ := f; rw [Form.vs]; rfl
end Go.Abs
end
section
set_option linter.unusedVariables false
set_option linter.unusedSimpArgs false
namespace Go.Abs
noncomputable def distF : List Form → List Form → Bool
  | _, [] => true
  | ps, x :: xs => !inF ps x && distF (ps ++ [x]) xs
end Go.Abs
end
end
section
set_option linter.unusedVariables false
set_option linter.unusedSimpArgs false
namespace Go.Abs
theorem l1Copy_tr : ∀ (n : Nat) (f : Form), f.w ≤ n → f.w ≤ 2 ^ 36 → Tr (fun m => m_spec_l1Copy m f) f := by
  intro n
  induction n with
  | zero => intro f h _; have := f.w_kids; omega
  | succ n ih =>
    intro f h hb
    have hw := f.w_kids
    have hl := Form.ws_len f.kids
    refine Tr.step (fun m => by rw [m_spec_l1Copy]) ?_
    refine Tr.chk (by simp; omega) ?_
    have key := drop_ind f.kids (fun k ys => ∀ acc : List Form, acc.length = k → Tr (fun m => m_spec_l1Copy_l1 m f (k : Int) acc) (Form.mk f.kind f.name f.n f.scopes (acc ++ ys))) ?_ ?_ 0 (Nat.zero_le _) [] rfl
    · rw [List.drop_zero, List.nil_append] at key
      obtain ⟨a, b, c, d, e⟩ := f
      exact key
    · intro acc _
      refine Tr.step (fun m => by rw [m_spec_l1Copy_l1, ltN_self]) ?_
      rw [List.append_nil]; exact Tr.val
    · intro k x xs hk hx hd ihk acc hacc
      have hmem : x ∈ f.kids := List.mem_of_getElem? hx
      have hxw := Form.ws_mem hmem
      refine Tr.step (fun m => by rw [m_spec_l1Copy_l1, ltN hk, idx_nat hx, succN]) ?_
      refine Tr.bind (ih x (by omega) (by omega)) ?_
      refine Tr.chk (by simp; omega) ?_
      have := ihk (acc ++ [x]) (by simp; exact hacc)
      rwa [List.append_assoc] at this
end Go.Abs
end
section
set_option linter.unusedVariables false
namespace Go.Abs
mutual
def Form.fitB : Form → Bool
  | .mk _ name _ scopes kids => decide (name.size ≤ 100) && (decide (scopes.length ≤ 100) && (decide (kids.length ≤ 100) && Form.fitBs kids))
def Form.fitBs : List Form → Bool
  | [] => true
  | f :: fs => f.fitB && Form.fitBs fs
end
end Go.Abs
end
section
set_option linter.unusedVariables false
set_option linter.unusedSimpArgs false
namespace Go.Abs
theorem TQ.same {α : Type} {F : Nat → Option α} {v : α} (h : Tr F v) : TQ F (fun r => r = v) := ⟨v, h, rfl⟩
theorem TQ.at {α β : Type} {l : List α} {i : Int} {x : α} {g : α → Nat → Option β} {R : β → Prop} (hx : Abs.idx l i = some x) (h : TQ (fun m => g x m) R) : TQ (fun m => (Abs.idx l i).bind fun y => g y m) R := by
  obtain ⟨w, hw, hr⟩ := h
  exact ⟨w, Tr.idx hx hw, hr⟩
structure Dr (n : Nat) (f : Form) : Prop where
  w : f.w ≤ n
  fit : f.fit
theorem Dr.mono {n k : Nat} {f : Form} (h : Dr n f) (hk : n ≤ k) : Dr k f := ⟨Nat.le_trans h.w hk, h.fit⟩
end Go.Abs
end
section
set_option linter.unusedVariables false
set_option linter.unusedSimpArgs false
namespace Go.Abs
theorem loop_app {α β γ : Type} {xs : List α} {c : Nat} {f : α → β} {L : Nat → Int → List β → Option γ} {E : Nat → α → Option β} {fin : List β → γ}
    (h0 : ∀ m k acc, L (m + 1) k acc = bif decide (k < (xs.length : Int)) then (idx xs k).bind fun a => (E m a).bind fun v => chk (decide ((acc.length + [v].length) * c ≤ 140737488355328)) (L m (k + 1) (acc ++ [v])) else some (fin acc))
    (hE : ∀ a ∈ xs, Tr (fun m => E m a) (f a)) (acc0 : List β) (hb : (acc0.length + xs.length) * c ≤ 140737488355328) : Tr (fun m => L m 0 acc0) (fin (acc0 ++ xs.map f)) := by
  have key := drop_ind xs (fun k zs => ∀ acc : List β, (acc.length + zs.length) * c ≤ 140737488355328 → Tr (fun m => L m (k : Int) acc) (fin (acc ++ zs.map f))) ?_ ?_ 0 (Nat.zero_le _) acc0 (by simpa using hb)
  · simpa using key
  · intro acc _
    refine Tr.step (fun m => by rw [h0, ltN_self, cond_false]) ?_
    rw [List.map_nil, List.append_nil]; exact Tr.val
  · intro k x zs hk hx hd ih acc hc
    refine Tr.step (fun m => by rw [h0, ltN hk, cond_true, idx_nat hx, Option.bind_some, succN]) ?_
    refine Tr.bind (hE x (List.mem_of_getElem? hx)) ?_
    have hc1 : (acc.length + 1) * c ≤ 140737488355328 := Nat.le_trans (Nat.mul_le_mul_right c (by simp)) hc
    refine Tr.chk (decide_eq_true (by simpa using hc1)) ?_
    have := ih (acc ++ [f x]) (by
      refine Nat.le_trans (Nat.mul_le_mul_right c ?_) hc
      simp; omega)
    rwa [List.append_assoc] at this
theorem clone_tr (l : List Int) (h : l.length ≤ 2 ^ 36) : Tr (fun m => m_slices_Clone_int m l) l :=
  Tr.eq (fun m => by unfold m_slices_Clone_int; rfl) (Tr.chk (decide_eq_true (by simp; omega)) Tr.val)
theorem copyForm_n : ∀ (n : Nat) (f : Form), f.w ≤ n → f.w ≤ 2 ^ 36 → Tr (fun m => m_impl_copyForm m f) f := by
  intro n
  induction n with
  | zero => intro f h _; have := f.w_kids; omega
  | succ n ih =>
    intro f h hb
    have hw := f.w_kids
    have hl := Form.ws_len f.kids
    refine Tr.step (fun m => by rw [m_impl_copyForm]) (Tr.bind (clone_tr _ (by omega)) ?_)
    have := loop_app (xs := f.kids) (c := 80) (f := fun x => x) (L := fun m k acc => m_impl_copyForm_l1 m f f.scopes k acc) (E := fun m a => m_impl_copyForm m a) (fin := fun g => Form.mk f.kind f.name f.n f.scopes g)
      (fun m k acc => by rw [m_impl_copyForm_l1]) (fun a ha => ih a (by have := Form.ws_mem ha; omega) (by have := Form.ws_mem ha; omega)) [] (by simp; omega)
    rw [List.map_id', List.nil_append] at this
    obtain ⟨a, b, c, d, e⟩ := f
    exact this
theorem copyForm_tr (f : Form) (h : f.w ≤ 2 ^ 36) : Tr (fun m => m_impl_copyForm m f) f := copyForm_n _ f (Nat.le_refl _) h
theorem ownForm_n : ∀ (n : Nat) (f : Form), f.w ≤ n → f.w ≤ 2 ^ 36 → Tr (fun m => m_spec_l15OwnForm m f) f := by
  intro n
  induction n with
  | zero => intro f h _; have := f.w_kids; omega
  | succ n ih =>
    intro f h hb
    have hw := f.w_kids
    have hl := Form.ws_len f.kids
    refine Tr.step (fun m => by rw [m_spec_l15OwnForm]) (Tr.chk (decide_eq_true (by simp; omega)) (Tr.bind (v := f.kids) (Tr.step (fun m => by rw [m_spec_l15OwnListForm]) ?_) ?_))
    · have := loop_app (xs := f.kids) (c := 80) (f := fun x => x) (L := fun m k acc => m_spec_l15OwnListForm_l1 m f.kids acc k) (E := fun m a => m_spec_l15OwnForm m a) (fin := fun g => g)
        (fun m k acc => by rw [m_spec_l15OwnListForm_l1]) (fun a ha => ih a (by have := Form.ws_mem ha; omega) (by have := Form.ws_mem ha; omega)) [] (by simp; omega)
      simpa using this
    · obtain ⟨a, b, c, d, e⟩ := f
      exact Tr.val
theorem ownForm_tr (f : Form) (h : f.w ≤ 2 ^ 36) : Tr (fun m => m_spec_l15OwnForm m f) f := ownForm_n _ f (Nat.le_refl _) h
mutual
noncomputable def Form.part (x : Form) : Form → Bool
  | .mk a b c d kids => same (Form.mk a b c d kids) x || Form.parts x kids
noncomputable def Form.parts (x : Form) : List Form → Bool
  | [] => false
  | y :: ys => Form.part x y || Form.parts x ys
end
theorem Form.part_eq (x f : Form) : Form.part x f = (same f x || Form.parts x f.kids) := by obtain ⟨a, b, c, d, e⟩ := f; rw [Form.part]; rfl
theorem parts_mem {x : Form} : ∀ {l : List Form} {y : Form}, y ∈ l → Form.part x y = true → Form.parts x l = true
  | z :: l, y, hy, h => by
    rw [Form.parts, Bool.or_eq_true]
    rcases List.mem_cons.1 hy with rfl | hy
    · exact .inl h
    · exact .inr (parts_mem hy h)
end Go.Abs
end
section
set_option linter.unusedVariables false
set_option linter.unusedSimpArgs false
namespace Go.Abs
noncomputable def hAt (l : List Hit) (f : Form) : Int := fnd (fun x => same x.name f) l 0
theorem hitAt_tr (l : List Hit) (f : Form) : Tr (fun m => m_impl_hitAt m l f) (hAt l f) := by
  refine Tr.eq (fun m => by unfold m_impl_hitAt; rfl) (Tr.bind ?_ Tr.val)
  refine Tr.eq (fun m => by unfold m_slices_IndexFunc_Hit_hitAt_1; rfl) ?_
  exact loop_find (xs := l) (L := fun m j => m_slices_IndexFunc_Hit_hitAt_1_l1 m l f j) (E := fun m y => m_impl_hitAt_1 m y f) (fun m j => by rw [m_slices_IndexFunc_Hit_hitAt_1_l1]) (fun y _ => Tr.eq (fun m => by unfold m_impl_hitAt_1; rfl) (Tr.bind (implFormSame_tr _ _) Tr.val))
theorem l4Find_tr (l : List Hit) (f : Form) : Tr (fun m => m_spec_l4Find m l f) (hAt l f) := by
  refine Tr.eq (fun m => by unfold m_spec_l4Find; rfl) ?_
  exact loop_find (xs := l) (L := fun m j => m_spec_l4Find_l1 m l f j) (E := fun m y => m_spec_FormSame m y.name f) (fun m j => by rw [m_spec_l4Find_l1]) (fun y _ => specFormSame_tr _ _)
theorem fnd_at {α : Type} {D : α → Bool} : ∀ {l : List α} {k : Nat}, (fnd D l k = -1 ∧ ∀ x ∈ l, D x = false) ∨ ∃ i x, fnd D l k = ((k + i : Nat) : Int) ∧ l[i]? = some x ∧ D x = true ∧ ∀ y ∈ l.take i, D y = false
  | [], k => .inl ⟨rfl, fun x hx => by cases hx⟩
  | z :: l, k => by
    rw [fnd]
    cases h : D z with
    | true => exact .inr ⟨0, z, rfl, rfl, h, fun y hy => by cases hy⟩
    | false =>
      rw [cond_false]
      rcases fnd_at (D := D) (l := l) (k := k + 1) with ⟨h1, h2⟩ | ⟨i, x, h1, h2, h3, h4⟩
      · exact .inl ⟨h1, fun x hx => by
          rcases List.mem_cons.1 hx with rfl | hx
          · exact h
          · exact h2 x hx⟩
      · exact .inr ⟨i + 1, x, by rw [h1]; congr 1; omega, by simpa using h2, h3, fun y hy => by
          rw [List.take_succ_cons] at hy
          rcases List.mem_cons.1 hy with rfl | hy
          · exact h
          · exact h4 y hy⟩
def hit0 : Hit := Hit.mk (Form.mk 0 (⟨#[]⟩ : ByteArray) 0 ([] : List Int) ([] : List Form)) 0 (Form.mk 0 (⟨#[]⟩ : ByteArray) 0 ([] : List Int) ([] : List Form)) ([] : List Hit)
end Go.Abs
end
section
set_option linter.unusedVariables false
set_option linter.unusedSimpArgs false
namespace Go.Abs
def anys {α : Type} (D : α → Bool) : List α → Bool
  | [] => false
  | x :: xs => D x || anys D xs
def hasB (l : List Int) (n : Int) : Bool := anys (fun x => decide (x = n)) l
def withinB (a b : List Int) : Bool := alls (fun x => hasB b x) a
def bind0 : Bind := Bind.mk (⟨#[]⟩ : ByteArray) [] 0
def bAt (l : List Bind) (i : Int) : Bind := l.getD i.toNat bind0
def fitB (f : Form) (b : Bind) : Bool := decide (b.name = f.name) && withinB b.scopes f.scopes
def fitsF (f : Form) : List Bind → Nat → List Int
  | [], _ => []
  | b :: bs, k => (bif fitB f b then [(k : Int)] else []) ++ fitsF f bs (k + 1)
def fitsB (l : List Bind) (f : Form) : List Int := fitsF f l 0
def bestB (l : List Bind) (fits : List Int) (i : Int) : Bool := alls (fun j => withinB (bAt l j).scopes (bAt l i).scopes) fits
def firstB (l : List Bind) (fits : List Int) : List Int → Option Int
  | [] => none
  | i :: is => bif bestB l fits i then some i else firstB l fits is
def refB (l : List Bind) (f : Form) : Int × Int :=
  match firstB l (fitsB l f) (fitsB l f) with
  | some i => (i, 1)
  | none => (0, bif decide (0 < ((fitsB l f).length : Int)) then 2 else 0)
def refS (l : List Bind) (a b : Form) : Bool :=
  decide ((refB l a).2 = (refB l b).2) && (!decide ((refB l a).2 = 2) && (bif decide ((refB l a).2 = 0) then decide (a.name = b.name) else decide ((bAt l (refB l a).1).id = (bAt l (refB l b).1).id)))
end Go.Abs
end
