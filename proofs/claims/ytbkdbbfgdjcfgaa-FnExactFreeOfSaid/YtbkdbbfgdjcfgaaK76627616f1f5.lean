/- A part of the proof: what the functions that the law calls answer, as pure values. -/
import Derived.Lib.SlicesCompact
import Derived.Test.YtbkdbbfgdjcfgaaK77b7fab21485
import Derived.Test.YtbkdbbfgdjcfgaaK99278a978e87
set_option linter.unusedSimpArgs false
set_option linter.unusedVariables false
section
set_option linter.unusedVariables false
namespace Go.Abs
def Tr {α : Type} (F : Nat → Option α) (v : α) : Prop := ∃ n, ∀ m, n ≤ m → F m = some v
theorem Tr.val {α : Type} {v : α} : Tr (fun _ => some v) v := ⟨0, fun _ _ => rfl⟩
theorem Tr.of {α : Type} {F : Nat → Option α} {v : α} (h : ∀ m, F m = some v) : Tr F v := ⟨0, fun m _ => h m⟩
theorem Tr.bind {α β : Type} {f : Nat → Option α} {g : α → Nat → Option β} {v : α} {w : β} (h1 : Tr f v) (h2 : Tr (fun m => g v m) w) : Tr (fun m => (f m).bind fun x => g x m) w := by
  obtain ⟨n1, h1⟩ := h1
  obtain ⟨n2, h2⟩ := h2
  refine ⟨n1 + n2, fun m hm => ?_⟩
  show (f m).bind _ = _
  rw [h1 m (by omega)]
  exact h2 m (by omega)
theorem Tr.step {α : Type} {F G : Nat → Option α} {v : α} (h : ∀ m, F (m + 1) = G m) (hg : Tr G v) : Tr F v := by
  obtain ⟨n, hg⟩ := hg
  refine ⟨n + 1, fun m hm => ?_⟩
  obtain ⟨k, rfl⟩ : ∃ k, m = k + 1 := ⟨m - 1, by omega⟩
  rw [h, hg k (by omega)]
theorem Tr.eq {α : Type} {F G : Nat → Option α} {v : α} (h : ∀ m, F m = G m) (hg : Tr G v) : Tr F v := by
  obtain ⟨n, hg⟩ := hg
  exact ⟨n, fun m hm => by rw [h, hg m hm]⟩
theorem Tr.tt {α : Type} {F G : Nat → Option α} {b : Bool} {v : α} (hb : b = true) (h : Tr F v) : Tr (fun m => bif b then F m else G m) v := by subst hb; exact h
theorem Tr.ff {α : Type} {F G : Nat → Option α} {b : Bool} {v : α} (hb : b = false) (h : Tr G v) : Tr (fun m => bif b then F m else G m) v := by subst hb; exact h
theorem Tr.chk {α : Type} {F : Nat → Option α} {b : Bool} {v : α} (hb : b = true) (h : Tr F v) : Tr (fun m => Abs.chk b (F m)) v := by subst hb; exact h
theorem Tr.idx {α β : Type} {l : List α} {i : Int} {x : α} {g : α → Nat → Option β} {w : β} (hx : idx l i = some x) (h : Tr (fun m => g x m) w) : Tr (fun m => (Abs.idx l i).bind fun y => g y m) w := by
  rw [hx]; exact h
theorem Tr.get {α : Type} {F : Nat → Option α} {v : α} (h : Tr F v) : ∃ n, F n = some v := by
  obtain ⟨n, h⟩ := h; exact ⟨n, h n (Nat.le_refl n)⟩
theorem idx_nat {α : Type} {l : List α} {k : Nat} {x : α} (h : l[k]? = some x) : idx l (k : Int) = some x := by
  unfold idx
  simp [h]
theorem idx_int {α : Type} {l : List α} {i : Int} (h0 : 0 ≤ i) (h1 : i < l.length) : ∃ x, idx l i = some x ∧ x ∈ l := by
  obtain ⟨k, rfl⟩ := Int.eq_ofNat_of_zero_le h0
  have hk : k < l.length := by omega
  exact ⟨l[k], idx_nat (List.getElem?_eq_getElem hk), List.getElem_mem hk⟩
theorem drop_ind {α : Type} (l : List α) (motive : Nat → List α → Prop) (nil : motive l.length [])
    (cons : ∀ k x xs, k < l.length → l[k]? = some x → l.drop k = x :: xs → motive (k + 1) xs → motive k (x :: xs)) : ∀ k, k ≤ l.length → motive k (l.drop k) := by
  have key : ∀ n k, l.length - k = n → k ≤ l.length → motive k (l.drop k) := by
    intro n
    induction n with
    | zero =>
      intro k hk hle
      have : k = l.length := by omega
      subst this
      rw [List.drop_length]; exact nil
    | succ n ih =>
      intro k hk hle
      have hlt : k < l.length := by omega
      have := ih (k + 1) (by omega) (by omega)
      rw [List.drop_eq_getElem_cons hlt]
      exact cons k _ _ hlt (List.getElem?_eq_getElem hlt) (List.drop_eq_getElem_cons hlt) this
  exact fun k hk => key _ k rfl hk
theorem ltN {k n : Nat} (h : k < n) : decide ((k : Int) < (n : Int)) = true := by simpa using h
theorem ltN_self {n : Nat} : decide ((n : Int) < (n : Int)) = false := by simp
theorem succN (k : Nat) : (k : Int) + 1 = ((k + 1 : Nat) : Int) := by simp
theorem w64_in {n : Int} (h : -9223372036854775808 ≤ n ∧ n ≤ 9223372036854775807) : w64 n = n := IntWalk.i64_in n (by omega)
def TQ {α : Type} (F : Nat → Option α) (Q : α → Prop) : Prop := ∃ r, Tr F r ∧ Q r
theorem TQ.val {α : Type} {v : α} {Q : α → Prop} (h : Q v) : TQ (fun _ => some v) Q := ⟨v, Tr.val, h⟩
theorem TQ.bind {α β : Type} {f : Nat → Option α} {g : α → Nat → Option β} {Q : α → Prop} {R : β → Prop} (h1 : TQ f Q) (h2 : ∀ v, Q v → TQ (fun m => g v m) R) : TQ (fun m => (f m).bind fun x => g x m) R := by
  obtain ⟨v, h1, hq⟩ := h1
  obtain ⟨w, h2, hr⟩ := h2 v hq
  exact ⟨w, h1.bind h2, hr⟩
theorem TQ.step {α : Type} {F G : Nat → Option α} {Q : α → Prop} (h : ∀ m, F (m + 1) = G m) (hg : TQ G Q) : TQ F Q := by
  obtain ⟨v, h1, hq⟩ := hg
  exact ⟨v, Tr.step h h1, hq⟩
theorem TQ.eq {α : Type} {F G : Nat → Option α} {Q : α → Prop} (h : ∀ m, F m = G m) (hg : TQ G Q) : TQ F Q := by
  obtain ⟨v, h1, hq⟩ := hg
  exact ⟨v, Tr.eq h h1, hq⟩
theorem TQ.cond {α : Type} {F G : Nat → Option α} {b : Bool} {Q : α → Prop} (h1 : b = true → TQ F Q) (h2 : b = false → TQ G Q) : TQ (fun m => bif b then F m else G m) Q := by
  cases b
  · exact h2 rfl
  · exact h1 rfl
theorem TQ.chk {α : Type} {F : Nat → Option α} {b : Bool} {Q : α → Prop} (hb : b = true) (h : TQ F Q) : TQ (fun m => Abs.chk b (F m)) Q := by subst hb; exact h
theorem TQ.idx {α β : Type} {l : List α} {i : Int} {g : α → Nat → Option β} {R : β → Prop} (h0 : 0 ≤ i) (h1 : i < l.length) (h : ∀ x, x ∈ l → TQ (fun m => g x m) R) : TQ (fun m => (Abs.idx l i).bind fun y => g y m) R := by
  obtain ⟨x, hx, hm⟩ := idx_int h0 h1
  obtain ⟨w, hw, hr⟩ := h x hm
  exact ⟨w, Tr.idx hx hw, hr⟩
theorem TQ.mono {α : Type} {F : Nat → Option α} {Q R : α → Prop} (h : TQ F Q) (hq : ∀ v, Q v → R v) : TQ F R := by
  obtain ⟨v, h1, h2⟩ := h; exact ⟨v, h1, hq v h2⟩
mutual
def Form.w : Form → Nat
  | .mk _ _ _ scopes kids => 1 + scopes.length + Form.ws kids
def Form.ws : List Form → Nat
  | [] => 0
  | f :: fs => 1 + f.w + Form.ws fs
end
mutual
def Core.w : Core → Nat
  | .mk _ _ _ _ ids data kids => 1 + ids.length + data.w + Core.ws kids
def Core.ws : List Core → Nat
  | [] => 0
  | f :: fs => 1 + f.w + Core.ws fs
end
theorem Form.ws_len : ∀ (l : List Form), l.length ≤ Form.ws l
  | [] => by simp
  | f :: fs => by have := Form.ws_len fs; rw [Form.ws, List.length_cons]; omega
theorem Core.ws_len : ∀ (l : List Core), l.length ≤ Core.ws l
  | [] => by simp
  | f :: fs => by have := Core.ws_len fs; rw [Core.ws, List.length_cons]; omega
theorem Form.ws_mem : ∀ {l : List Form} {x : Form}, x ∈ l → x.w < Form.ws l
  | f :: fs, x, h => by
    rw [Form.ws]
    rcases List.mem_cons.1 h with rfl | h
    · omega
    · have := Form.ws_mem h; omega
theorem Core.ws_mem : ∀ {l : List Core} {x : Core}, x ∈ l → x.w < Core.ws l
  | f :: fs, x, h => by
    rw [Core.ws]
    rcases List.mem_cons.1 h with rfl | h
    · omega
    · have := Core.ws_mem h; omega
theorem Form.w_kids (f : Form) : Form.ws f.kids + f.scopes.length + 1 = f.w := by obtain ⟨a, b, c, d, e⟩ := f; simp only [Form.w, Form.kids, Form.scopes]; omega
theorem Core.w_kids (f : Core) : Core.ws f.kids + f.ids.length + f.data.w + 1 = f.w := by obtain ⟨a, b, c, d, e, g, h⟩ := f; simp only [Core.w, Core.kids, Core.ids, Core.data]; omega
structure OkRd (r : l15Rd) (K : Int) : Prop where
  len : r.b.length ≤ 2000
  byte : ∀ x ∈ r.b, 0 ≤ x ∧ x < 256
  lo : 0 ≤ r.p
  hi : r.p ≤ K
theorem OkRd.mono {r : l15Rd} {K K' : Int} (h : OkRd r K) (hk : K ≤ K') : OkRd r K' := ⟨h.len, h.byte, h.lo, by have := h.hi; omega⟩
end Go.Abs
end
section
section
set_option linter.unusedVariables false
set_option linter.unusedSimpArgs false
namespace Go.Abs
noncomputable def same {α : Type} (a b : α) : Bool := @decide (a = b) (Classical.propDecidable _)
theorem same_iff {α : Type} {a b : α} : same a b = true ↔ a = b := by unfold same; exact @decide_eq_true_iff _ (Classical.propDecidable _)
theorem same_self {α : Type} (a : α) : same a a = true := same_iff.2 rfl
theorem same_ne {α : Type} {a b : α} (h : a ≠ b) : same a b = false := by
  rw [← Bool.not_eq_true, same_iff]; exact h
theorem same_dec {α : Type} (a b : α) [inst : Decidable (a = b)] : same a b = decide (a = b) := by
  rw [Bool.eq_iff_iff, same_iff, decide_eq_true_iff]
theorem same_cons {α : Type} (a b : α) (xs ys : List α) : same (a :: xs) (b :: ys) = (same a b && same xs ys) := by
  rw [Bool.eq_iff_iff, Bool.and_eq_true, same_iff, same_iff, same_iff, List.cons.injEq]
theorem drop_get {α : Type} {l : List α} {k : Nat} {x : α} (h : l[k]? = some x) : l.drop k = x :: l.drop (k + 1) := by
  obtain ⟨hk, rfl⟩ := List.getElem?_eq_some_iff.1 h
  exact List.drop_eq_getElem_cons hk
theorem loop_eq {α : Type} {xs ys : List α} (hl : xs.length = ys.length) {L : Nat → Int → Option Bool} {E : Nat → α → α → Option Bool}
    (h0 : ∀ m k, L (m + 1) k = bif decide (k < (xs.length : Int)) then (idx xs k).bind fun a => (idx ys k).bind fun b => (E m a b).bind fun v => bif !v then some false else L m (k + 1) else some true)
    (hE : ∀ a ∈ xs, ∀ b ∈ ys, Tr (fun m => E m a b) (same a b)) : Tr (fun m => L m 0) (same xs ys) := by
  have key := drop_ind xs (fun k zs => Tr (fun m => L m (k : Int)) (same zs (ys.drop k))) ?_ ?_ 0 (Nat.zero_le _)
  · simpa using key
  · rw [hl, List.drop_length, same_self]
    exact Tr.step (fun m => by rw [h0, hl, ltN_self, cond_false]) Tr.val
  · intro k x zs hk hx hd ih
    have hk' : k < ys.length := by omega
    have hy : ys[k]? = some ys[k] := List.getElem?_eq_getElem hk'
    rw [drop_get hy, same_cons]
    refine Tr.step (fun m => by rw [h0, ltN hk, cond_true, idx_nat hx, Option.bind_some, idx_nat hy, Option.bind_some, succN]) ?_
    refine Tr.bind (hE x (List.mem_of_getElem? hx) ys[k] (List.getElem_mem hk')) ?_
    cases h : same x ys[k] with
    | false => exact Tr.tt rfl Tr.val
    | true => exact Tr.ff rfl ih
theorem loop_eqI {α : Type} [DecidableEq α] {xs ys : List α} (hl : xs.length = ys.length) {L : Nat → Int → Option Bool}
    (h0 : ∀ m k, L (m + 1) k = bif decide (k < (xs.length : Int)) then (idx xs k).bind fun a => (idx ys k).bind fun b => bif decide (a ≠ b) then some false else L m (k + 1) else some true) : Tr (fun m => L m 0) (same xs ys) :=
  loop_eq (E := fun _ a b => some (decide (a = b))) hl (fun m k => by
    rw [h0]; congr 1; congr 1; funext a; congr 1; funext b; rw [Option.bind_some]; congr 1; simp) (fun a _ b _ => Tr.of (fun _ => by rw [same_dec]))
def alls {α : Type} (D : α → Bool) : List α → Bool
  | [] => true
  | x :: xs => D x && alls D xs
theorem alls_iff {α : Type} {D : α → Bool} : ∀ {l : List α}, alls D l = true ↔ ∀ x ∈ l, D x = true
  | [] => by simp [alls]
  | x :: xs => by rw [alls, Bool.and_eq_true, alls_iff]; simp
def fnd {α : Type} (D : α → Bool) : List α → Nat → Int
  | [], _ => -1
  | x :: xs, k => bif D x then (k : Int) else fnd D xs (k + 1)
theorem fnd_ge {α : Type} {D : α → Bool} : ∀ {l : List α} {k : Nat}, (0 ≤ fnd D l k) ↔ ∃ x ∈ l, D x = true
  | [], k => by simp [fnd]
  | x :: xs, k => by
    rw [fnd]
    cases h : D x with
    | true => simp [h]
    | false => rw [cond_false, fnd_ge]; simp [h]
theorem loop_find {α : Type} {xs : List α} {D : α → Bool} {L : Nat → Int → Option Int} {E : Nat → α → Option Bool}
    (h0 : ∀ m k, L (m + 1) k = bif decide (k < (xs.length : Int)) then (idx xs k).bind fun a => (E m a).bind fun v => bif v then some k else L m (k + 1) else some (-1))
    (hE : ∀ a ∈ xs, Tr (fun m => E m a) (D a)) : Tr (fun m => L m 0) (fnd D xs 0) := by
  have key := drop_ind xs (fun k zs => Tr (fun m => L m (k : Int)) (fnd D zs k)) ?_ ?_ 0 (Nat.zero_le _)
  · simpa using key
  · exact Tr.step (fun m => by rw [h0, ltN_self, cond_false]; rfl) Tr.val
  · intro k x zs hk hx hd ih
    refine Tr.step (fun m => by rw [h0, ltN hk, cond_true, idx_nat hx, Option.bind_some, succN]) ?_
    refine Tr.bind (hE x (List.mem_of_getElem? hx)) ?_
    rw [fnd]
    cases h : D x with
    | false => exact Tr.ff rfl ih
    | true => exact Tr.tt rfl Tr.val
theorem loop_copy {α β : Type} {xs : List α} {z : β} {f : α → β} {L : Nat → Int → List β → Option (List β)} {E : Nat → α → Option β}
    (h0 : ∀ m k acc, L (m + 1) k acc = bif decide (k < (xs.length : Int)) then (idx xs k).bind fun a => (E m a).bind fun v => (idx acc k).bind fun _ => L m (k + 1) (acc.set k.toNat v) else some acc)
    (hE : ∀ a ∈ xs, Tr (fun m => E m a) (f a)) : Tr (fun m => L m 0 (List.replicate (xs.length : Int).toNat z)) (xs.map f) := by
  have key := drop_ind xs (fun k zs => Tr (fun m => L m (k : Int) ((xs.take k).map f ++ List.replicate zs.length z)) (xs.map f)) ?_ ?_ 0 (Nat.zero_le _)
  · simpa using key
  · exact Tr.step (fun m => by rw [h0, ltN_self, cond_false]; simp) Tr.val
  · intro k x zs hk hx hd ih
    have hlen : ((xs.take k).map f ++ List.replicate (x :: zs).length z)[k]? = some z := by
      rw [List.getElem?_append_right (by simp; omega)]
      simp [Nat.min_eq_left (Nat.le_of_lt hk)]
    refine Tr.step (fun m => by rw [h0, ltN hk, cond_true, idx_nat hx, Option.bind_some, idx_nat hlen, succN]) ?_
    refine Tr.bind (hE x (List.mem_of_getElem? hx)) ?_
    refine Tr.eq (fun m => by rw [Option.bind_some]) ?_
    have e : ((xs.take k).map f ++ List.replicate (x :: zs).length z).set (k : Int).toNat (f x) = (xs.take (k + 1)).map f ++ List.replicate zs.length z := by
      have h1 : (xs.take (k + 1)) = xs.take k ++ [x] := by
        rw [List.take_add_one, hx]; rfl
      have hlk : ((xs.take k).map f).length = k := by simp; omega
      rw [h1, Int.toNat_natCast, List.set_append_right k (f x) (by omega), hlk, Nat.sub_self]
      simp [List.replicate_succ]
    rw [e]; exact ih
end Go.Abs
end
section
set_option linter.unusedVariables false
set_option linter.unusedSimpArgs false
namespace Go.Abs
mutual
def Hit.w : Hit → Nat
  | .mk name _ one many => 1 + name.w + one.w + Hit.ws many
def Hit.ws : List Hit → Nat
  | [] => 0
  | f :: fs => 1 + f.w + Hit.ws fs
end
theorem Hit.ws_len : ∀ (l : List Hit), l.length ≤ Hit.ws l
  | [] => by simp
  | f :: fs => by have := Hit.ws_len fs; rw [Hit.ws, List.length_cons]; omega
theorem Hit.ws_mem : ∀ {l : List Hit} {x : Hit}, x ∈ l → x.w < Hit.ws l
  | f :: fs, x, h => by
    rw [Hit.ws]
    rcases List.mem_cons.1 h with rfl | h
    · omega
    · have := Hit.ws_mem h; omega
theorem Form.w_pos (f : Form) : 1 ≤ f.w := by have := f.w_kids; omega
theorem same_len {α : Type} {a b : List α} (h : a.length ≠ b.length) : same a b = false := same_ne (fun e => h (by rw [e]))
theorem form_same (a b : Form) : same a b = (decide (a.kind = b.kind) && (decide (a.name = b.name) && (decide (a.n = b.n) && (same a.scopes b.scopes && same a.kids b.kids)))) := by
  obtain ⟨k, nm, n, sc, ki⟩ := a
  obtain ⟨k', nm', n', sc', ki'⟩ := b
  show _ = (decide (k = k') && (decide (nm = nm') && (decide (n = n') && (same sc sc' && same ki ki'))))
  rw [Bool.eq_iff_iff]
  simp only [Bool.and_eq_true, same_iff, decide_eq_true_eq, Form.mk.injEq]
theorem lenB {a b : Nat} (h : a ≠ b) : decide ((a : Int) ≠ (b : Int)) = true := decide_eq_true (by omega)
theorem lenE {a b : Nat} (h : a = b) : decide ((a : Int) ≠ (b : Int)) = false := decide_eq_false (by omega)
theorem eqIntS_tr (a b : List Int) : Tr (fun m => m_laws_eqIntS m a b) (same a b) := by
  refine Tr.eq (fun m => by unfold m_laws_eqIntS; rfl) ?_
  by_cases h : a.length = b.length
  · exact Tr.ff (lenE h) (loop_eqI h (L := fun m k => m_laws_eqIntS_l1 m a b k) (fun m k => by rw [m_laws_eqIntS_l1]))
  · rw [same_len h]; exact Tr.tt (lenB h) Tr.val
theorem eqForm_n : ∀ (n : Nat) (a b : Form), a.w ≤ n → Tr (fun m => m_laws_eqForm m a b) (same a b) := by
  intro n
  induction n with
  | zero => intro a b h; have := a.w_pos; omega
  | succ n ih =>
    intro a b h
    have hw := a.w_kids
    rw [form_same]
    refine Tr.step (fun m => by rw [m_laws_eqForm]) ?_
    by_cases h1 : a.kind = b.kind
    case neg => rw [decide_eq_false h1]; exact Tr.tt (by simpa using h1) Tr.val
    rw [decide_eq_true h1]
    refine Tr.ff (by simpa using h1) ?_
    by_cases h2 : a.name = b.name
    case neg => rw [decide_eq_false h2]; exact Tr.tt (by simpa using h2) Tr.val
    rw [decide_eq_true h2]
    refine Tr.ff (by simpa using h2) ?_
    by_cases h3 : a.n = b.n
    case neg => rw [decide_eq_false h3]; exact Tr.tt (by simpa using h3) Tr.val
    rw [decide_eq_true h3]
    refine Tr.ff (by simpa using h3) (Tr.bind (eqIntS_tr _ _) ?_)
    cases same a.scopes b.scopes with
    | false => exact Tr.tt rfl Tr.val
    | true =>
    refine Tr.ff rfl (Tr.bind (v := same a.kids b.kids) (Tr.step (fun m => by rw [m_laws_eqFormS]) ?_) ?_)
    · by_cases hl : a.kids.length = b.kids.length
      · exact Tr.ff (lenE hl) (loop_eq hl (L := fun m k => m_laws_eqFormS_l1 m a.kids b.kids k) (E := fun m x y => m_laws_eqForm m x y) (fun m k => by rw [m_laws_eqFormS_l1]) (fun x hx y _ => ih x y (by have := Form.ws_mem hx; omega)))
      · rw [same_len hl]; exact Tr.tt (lenB hl) Tr.val
    · cases same a.kids b.kids with
      | false => exact Tr.tt rfl Tr.val
      | true => exact Tr.ff rfl Tr.val
theorem eqForm_tr (a b : Form) : Tr (fun m => m_laws_eqForm m a b) (same a b) := eqForm_n _ a b (Nat.le_refl _)
theorem toIntS_tr (l : List Int) (h : l.length ≤ 2 ^ 36) : Tr (fun m => m_laws_toIntS m l) l := by
  refine Tr.eq (fun m => by unfold m_laws_toIntS; rfl) (Tr.chk (by simp; omega) ?_)
  have := loop_copy (xs := l) (z := (0 : Int)) (f := fun x => x) (L := fun m k acc => m_laws_toIntS_l1 m l k acc) (E := fun _ a => some a) (fun m k acc => by rw [m_laws_toIntS_l1]; rfl) (fun a _ => Tr.val)
  simpa using this
theorem toForm_n : ∀ (n : Nat) (f : Form), f.w ≤ n → f.w ≤ 2 ^ 36 → Tr (fun m => m_laws_toForm m f) f := by
  intro n
  induction n with
  | zero => intro a h; have := a.w_pos; omega
  | succ n ih =>
    intro f h hb
    have hw := f.w_kids
    have hl := Form.ws_len f.kids
    refine Tr.step (fun m => by rw [m_laws_toForm]) (Tr.bind (toIntS_tr _ (by omega)) (Tr.bind (v := f.kids) ?_ ?_))
    · refine Tr.step (fun m => by rw [m_laws_toFormS]) (Tr.chk (by simp; omega) ?_)
      have := loop_copy (xs := f.kids) (z := Form.mk 0 (⟨#[]⟩ : ByteArray) 0 ([] : List Int) ([] : List Form)) (f := fun x => x) (L := fun m k acc => m_laws_toFormS_l1 m f.kids k acc) (E := fun m a => m_laws_toForm m a) (fun m k acc => by rw [m_laws_toFormS_l1]) (fun a ha => ih a (by have := Form.ws_mem ha; omega) (by have := Form.ws_mem ha; omega))
      simpa using this
    · obtain ⟨a, b, c, d, e⟩ := f; exact Tr.val
theorem toForm_tr (f : Form) (hb : f.w ≤ 2 ^ 36) : Tr (fun m => m_laws_toForm m f) f := toForm_n _ f (Nat.le_refl _) hb
end Go.Abs
end
section
set_option linter.unusedVariables false
set_option linter.unusedSimpArgs false
namespace Go.Abs
mutual
def Form.fit : Form → Prop
  | .mk _ name _ scopes kids => name.size ≤ 9223372036854775807 ∧ scopes.length ≤ 9223372036854775807 ∧ kids.length ≤ 9223372036854775807 ∧ Form.fits kids
def Form.fits : List Form → Prop
  | [] => True
  | f :: fs => f.fit ∧ Form.fits fs
end
mutual
def Hit.fit : Hit → Prop
  | .mk name _ one many => name.fit ∧ one.fit ∧ many.length ≤ 9223372036854775807 ∧ Hit.fits many
def Hit.fits : List Hit → Prop
  | [] => True
  | f :: fs => f.fit ∧ Hit.fits fs
end
theorem Form.fits_mem : ∀ {l : List Form} {x : Form}, Form.fits l → x ∈ l → x.fit
  | f :: fs, x, h, hx => by
    rw [Form.fits] at h
    rcases List.mem_cons.1 hx with rfl | hx
    · exact h.1
    · exact Form.fits_mem h.2 hx
theorem Hit.fits_mem : ∀ {l : List Hit} {x : Hit}, Hit.fits l → x ∈ l → x.fit
  | f :: fs, x, h, hx => by
    rw [Hit.fits] at h
    rcases List.mem_cons.1 hx with rfl | hx
    · exact h.1
    · exact Hit.fits_mem h.2 hx
theorem Form.fit.parts {f : Form} (h : f.fit) : f.name.size ≤ 9223372036854775807 ∧ f.scopes.length ≤ 9223372036854775807 ∧ f.kids.length ≤ 9223372036854775807 ∧ Form.fits f.kids := by
  obtain ⟨a, b, c, d, e⟩ := f; rw [Form.fit] at h; exact h
theorem Hit.fit.parts {f : Hit} (h : f.fit) : f.name.fit ∧ f.one.fit ∧ f.many.length ≤ 9223372036854775807 ∧ Hit.fits f.many := by
  obtain ⟨a, b, c, d⟩ := f; rw [Hit.fit] at h; exact h
mutual
def Form.wt : Form → Nat
  | .mk _ name _ scopes kids => name.size + scopes.length + Form.wts kids
def Form.wts : List Form → Nat
  | [] => 0
  | f :: fs => 1 + f.wt + Form.wts fs
end
mutual
def Hit.wt : Hit → Nat
  | .mk name _ one many => name.wt + one.wt + Hit.wts many
def Hit.wts : List Hit → Nat
  | [] => 0
  | f :: fs => 1 + f.wt + Hit.wts fs
end
theorem Form.wt_parts (f : Form) : f.wt = f.name.size + f.scopes.length + Form.wts f.kids := by obtain ⟨a, b, c, d, e⟩ := f; rw [Form.wt]; rfl
theorem Hit.wt_parts (f : Hit) : f.wt = f.name.wt + f.one.wt + Hit.wts f.many := by obtain ⟨a, b, c, d⟩ := f; rw [Hit.wt]; rfl
mutual
theorem Form.w_wt : ∀ f : Form, f.w ≤ 1 + 2 * f.wt
  | .mk a b c d e => by
    have := Form.ws_wts e
    rw [Form.w, Form.wt]; omega
theorem Form.ws_wts : ∀ l : List Form, Form.ws l ≤ 2 * Form.wts l
  | [] => by simp [Form.ws]
  | f :: fs => by
    have h1 := Form.w_wt f
    have h2 := Form.ws_wts fs
    rw [Form.ws, Form.wts]; omega
end
mutual
theorem Hit.w_wt : ∀ f : Hit, f.w ≤ 3 + 4 * f.wt
  | .mk a b c d => by
    have := Hit.ws_wts d
    have h1 := Form.w_wt a
    have h2 := Form.w_wt c
    rw [Hit.w, Hit.wt]; omega
theorem Hit.ws_wts : ∀ l : List Hit, Hit.ws l ≤ 4 * Hit.wts l
  | [] => by simp [Hit.ws]
  | f :: fs => by
    have h1 := Hit.w_wt f
    have h2 := Hit.ws_wts fs
    rw [Hit.ws, Hit.wts]; omega
end
theorem geZ {a : Int} (h : 0 ≤ a) : decide (a < 0) = false := decide_eq_false (by omega)
def Left (v : Int) (n : Nat) (r : Int) : Prop := r = -1 ∨ (0 ≤ r ∧ r = v - n)
theorem szIntS_tq (l : List Int) (v : Int) (hl : l.length ≤ 9223372036854775807) (h0 : 0 ≤ v) (h1 : v ≤ 2 ^ 40) : TQ (fun m => m_laws_szIntS m l v) (Left v l.length) := by
  refine TQ.eq (fun m => by unfold m_laws_szIntS; rw [w64_in (by omega)]) ?_
  exact TQ.cond (fun _ => TQ.val (.inl rfl)) (fun h => TQ.val (.inr ⟨by simpa using h, rfl⟩))
theorem szForm_n : ∀ (n : Nat) (f : Form) (v : Int), f.w ≤ n → f.fit → 0 ≤ v → v ≤ 2 ^ 40 → TQ (fun m => m_laws_szForm m f v) (Left v f.wt) := by
  intro n
  induction n with
  | zero => intro a v h; have := a.w_pos; omega
  | succ n ih =>
    intro f v h hf h0 h1
    obtain ⟨f1, f2, f3, f4⟩ := hf.parts
    have hw := f.w_kids
    have hwt := f.wt_parts
    refine TQ.step (fun m => by rw [m_laws_szForm, w64_in (by omega)]) ?_
    refine TQ.cond (fun _ => TQ.val (.inl rfl)) (fun h => ?_)
    replace h : 0 ≤ v - (f.name.size : Int) := by simpa using h
    refine TQ.bind (szIntS_tq _ _ f2 h (by omega)) (fun v2 h2 => ?_)
    rcases h2 with rfl | ⟨h2, rfl⟩
    · exact TQ.cond (fun _ => TQ.val (.inl rfl)) (fun h => absurd h (by decide))
    refine TQ.cond (fun h => absurd h (by rw [geZ h2]; decide)) (fun _ => ?_)
    refine TQ.bind (Q := Left (v - f.name.size - f.scopes.length) (Form.wts f.kids)) ?_ (fun v4 h4 => ?_)
    · refine TQ.step (fun m => by rw [m_laws_szFormS, w64_in (by omega)]) ?_
      refine TQ.cond (fun _ => TQ.val (.inl rfl)) (fun h => ?_)
      replace h : 0 ≤ v - (f.name.size : Int) - f.scopes.length - f.kids.length := by simpa using h
      have key := drop_ind f.kids (fun k zs => ∀ g : Int, 0 ≤ g → g ≤ 2 ^ 40 → TQ (fun m => m_laws_szFormS_l1 m f.kids g (k : Int)) (fun r => r = -1 ∨ (0 ≤ r ∧ r = g - Form.wts zs + zs.length))) ?_ ?_ 0 (Nat.zero_le _) _ h (by omega)
      · refine TQ.mono (by simpa using key) (fun r hr => ?_)
        rcases hr with hr | ⟨hr, he⟩
        · exact .inl hr
        · exact .inr ⟨hr, by rw [he]; omega⟩
      · intro g hg _
        exact TQ.step (fun m => by rw [m_laws_szFormS_l1, ltN_self, cond_false]) (TQ.val (.inr ⟨hg, by simp [Form.wts]⟩))
      · intro k x zs hk hx hd ihk g hg hg1
        refine TQ.step (fun m => by rw [m_laws_szFormS_l1, ltN hk, cond_true, idx_nat hx, Option.bind_some, succN]) ?_
        have hm := List.mem_of_getElem? hx
        refine TQ.bind (ih x g (by have := Form.ws_mem hm; omega) (Form.fits_mem f4 hm) hg hg1) (fun r hr => ?_)
        rcases hr with rfl | ⟨hr, rfl⟩
        · exact TQ.cond (fun _ => TQ.val (.inl rfl)) (fun h => absurd h (by decide))
        refine TQ.cond (fun h => absurd h (by rw [geZ hr]; decide)) (fun _ => ?_)
        refine TQ.mono (ihk _ hr (by omega)) (fun r hr => ?_)
        rcases hr with hr | ⟨hr, he⟩
        · exact .inl hr
        · exact .inr ⟨hr, by rw [he, Form.wts, List.length_cons]; omega⟩
    · rcases h4 with rfl | ⟨h4, rfl⟩
      · exact TQ.cond (fun _ => TQ.val (.inl rfl)) (fun h => absurd h (by decide))
      refine TQ.cond (fun h => absurd h (by rw [geZ h4]; decide)) (fun _ => TQ.val (.inr ⟨h4, by omega⟩))
theorem szForm_tq (f : Form) (v : Int) (hf : f.fit) (h0 : 0 ≤ v) (h1 : v ≤ 2 ^ 40) : TQ (fun m => m_laws_szForm m f v) (Left v f.wt) := szForm_n _ f v (Nat.le_refl _) hf h0 h1
end Go.Abs
end
section
set_option linter.unusedVariables false
set_option linter.unusedSimpArgs false
namespace Go.Abs
def letterB (c : Int) (first : Bool) : Bool := (decide (97 ≤ c) && decide (c ≤ 122)) || (decide (c = 42) || (decide (c = 63) || (decide (c = 61) || (decide (c = 43) || (decide (c = 60) || (!first && ((decide (48 ≤ c) && decide (c ≤ 57)) || decide (c = 45))))))))
def nmF : Nat → List UInt8 → Bool
  | _, [] => true
  | k, x :: xs => letterB (x.toNat : Int) (decide ((k : Int) = 0)) && nmF (k + 1) xs
def nmSz (s : ByteArray) : Bool := decide (1 ≤ (s.size : Int)) && decide ((s.size : Int) ≤ 12)
def nmOk (s : ByteArray) : Bool := decide (s = (⟨#[46, 46, 46]⟩ : ByteArray)) || (decide (s = (⟨#[95]⟩ : ByteArray)) || (nmF 0 s.data.toList && nmSz s))
def gtP : Option Int → Int → Bool
  | none, _ => true
  | some q, x => decide (q < x)
def scF : Option Int → List Int → Bool
  | _, [] => true
  | p, x :: xs => (decide (1 ≤ x) && decide (x ≤ 99)) && (gtP p x && scF (some x) xs)
def scOk (l : List Int) : Bool := scF none l && decide ((l.length : Int) ≤ 24)
end Go.Abs
end
section
set_option linter.unusedVariables false
set_option linter.unusedSimpArgs false
namespace Go.Abs
mutual
def Form.isOk : Form → Nat → Bool
  | .mk kind name n scopes kids, d => bif decide (d = 0) then false else
    bif decide (kind = 1) then (nmOk name && (decide (n = 0) && (scOk scopes && decide ((kids.length : Int) = 0))))
    else bif decide (kind = 2) then (decide (name = (⟨#[]⟩ : ByteArray)) && ((decide (0 ≤ n) && decide (n ≤ 999)) && (decide ((scopes.length : Int) = 0) && decide ((kids.length : Int) = 0))))
    else (decide (kind = 3) && (decide (name = (⟨#[]⟩ : ByteArray)) && (decide (n = 0) && (decide ((scopes.length : Int) = 0) && Form.isOks kids (d - 1)))))
def Form.isOks : List Form → Nat → Bool
  | [], _ => true
  | f :: fs, d => f.isOk d && Form.isOks fs d
end
mutual
def Form.cnt : Form → Nat
  | .mk _ _ _ _ kids => 1 + Form.cnts kids
def Form.cnts : List Form → Nat
  | [] => 0
  | f :: fs => f.cnt + Form.cnts fs
end
theorem Form.isOks_eq (d : Nat) : ∀ l : List Form, Form.isOks l d = alls (fun x => x.isOk d) l
  | [] => rfl
  | f :: fs => by rw [Form.isOks, alls, Form.isOks_eq d fs]
theorem Form.isOk_eq (f : Form) (d : Nat) : f.isOk d = bif decide (d = 0) then false else
    bif decide (f.kind = 1) then (nmOk f.name && (decide (f.n = 0) && (scOk f.scopes && decide ((f.kids.length : Int) = 0))))
    else bif decide (f.kind = 2) then (decide (f.name = (⟨#[]⟩ : ByteArray)) && ((decide (0 ≤ f.n) && decide (f.n ≤ 999)) && (decide ((f.scopes.length : Int) = 0) && decide ((f.kids.length : Int) = 0))))
    else (decide (f.kind = 3) && (decide (f.name = (⟨#[]⟩ : ByteArray)) && (decide (f.n = 0) && (decide ((f.scopes.length : Int) = 0) && alls (fun x => x.isOk (d - 1)) f.kids)))) := by
  obtain ⟨a, b, c, e, g⟩ := f; rw [Form.isOk, Form.isOks_eq]; rfl
def Form.valid (f : Form) : Bool := f.isOk 40 && decide (f.cnt ≤ 400)
end Go.Abs
end
section
set_option linter.unusedVariables false
set_option linter.unusedSimpArgs false
namespace Go.Abs
abbrev dotsN : ByteArray := (⟨#[46, 46, 46]⟩ : ByteArray)
abbrev underN : ByteArray := (⟨#[95]⟩ : ByteArray)
abbrev form0 : Form := Form.mk 0 (⟨#[]⟩ : ByteArray) 0 ([] : List Int) ([] : List Form)
def isNm (f : Form) : Bool := decide (f.kind = 1) && f.valid
mutual
noncomputable def Hit.isOk : Hit → Bool
  | .mk name depth one many => isNm name && (!decide (name.name = dotsN) && (!decide (name.name = underN) && ((decide (0 ≤ depth) && decide (depth ≤ 3)) &&
      bif decide (depth = 0) then (one.valid && decide ((many.length : Int) = 0)) else (same one form0 && (decide ((many.length : Int) ≤ 400) && Hit.isOks many name (depth - 1))))))
noncomputable def Hit.isOks : List Hit → Form → Int → Bool
  | [], _, _ => true
  | x :: xs, nm, d => (same x.name nm && (decide (x.depth = d) && x.isOk)) && Hit.isOks xs nm d
end
theorem Hit.isOks_eq (nm : Form) (d : Int) : ∀ l : List Hit, Hit.isOks l nm d = alls (fun x => same x.name nm && (decide (x.depth = d) && x.isOk)) l
  | [] => by rw [Hit.isOks, alls]
  | x :: xs => by rw [Hit.isOks, alls, Hit.isOks_eq nm d xs]
theorem Hit.isOk_eq (h : Hit) : h.isOk = (isNm h.name && (!decide (h.name.name = dotsN) && (!decide (h.name.name = underN) && ((decide (0 ≤ h.depth) && decide (h.depth ≤ 3)) &&
      bif decide (h.depth = 0) then (h.one.valid && decide ((h.many.length : Int) = 0)) else (same h.one form0 && (decide ((h.many.length : Int) ≤ 400) && alls (fun x => same x.name h.name && (decide (x.depth = h.depth - 1) && x.isOk)) h.many)))))) := by
  obtain ⟨a, b, c, d⟩ := h; rw [Hit.isOk, Hit.isOks_eq]; rfl
end Go.Abs
end
section
set_option linter.unusedVariables false
set_option linter.unusedSimpArgs false
namespace Go.Abs
def isDots (f : Form) : Bool := decide (f.kind = 1) && decide (f.name = dotsN)
noncomputable def depF : List (Form × Int) → Form → Int
  | [], _ => -1
  | p :: ps, f => bif same p.1 f then p.2 else depF ps f
noncomputable def dep (l : List (Form × Int)) (f : Form) : Int := bif decide (f.kind ≠ 1) then -1 else depF l f
def nd (l : List Hit) : List (Form × Int) := l.map fun h => (h.name, h.depth)
end Go.Abs
end
section
set_option linter.unusedVariables false
set_option linter.unusedSimpArgs false
namespace Go.Abs
def lessI (k : Nat) (d : Int) : Int := bif decide (0 < d) then (bif decide ((k : Int) < d) then d - k else 0) else d
theorem lessI_succ (k : Nat) (d : Int) : lessI (k + 1) d = bif decide (0 < lessI k d) then lessI k d - 1 else lessI k d := by
  unfold lessI
  by_cases h : 0 < d
  · rw [decide_eq_true h, cond_true, cond_true]
    by_cases h2 : (k : Int) < d
    · rw [decide_eq_true h2, cond_true, decide_eq_true (show 0 < d - (k : Int) by omega), cond_true]
      by_cases h3 : ((k + 1 : Nat) : Int) < d
      · rw [decide_eq_true h3, cond_true]; omega
      · rw [decide_eq_false h3, cond_false]; omega
    · rw [decide_eq_false h2, cond_false, decide_eq_false (show ¬ ((k + 1 : Nat) : Int) < d by omega), cond_false]; rfl
  · rw [decide_eq_false h, cond_false, cond_false, decide_eq_false h, cond_false]
theorem lessI_zero (d : Int) : lessI 0 d = d := by
  unfold lessI
  by_cases h : 0 < d
  · rw [decide_eq_true h, cond_true, decide_eq_true (show ((0 : Nat) : Int) < d by omega), cond_true]; omega
  · rw [decide_eq_false h, cond_false]
def rowOf (h : Hit) : Hit := Hit.mk h.name (bif decide (0 < h.depth) then h.depth - 1 else h.depth) h.one ([] : List Hit)
theorem depF_row (f : Form) : ∀ l : List Hit, depF (nd (l.map rowOf)) f = bif decide (0 < depF (nd l) f) then depF (nd l) f - 1 else depF (nd l) f
  | [] => rfl
  | h :: hs => by
    have ih := depF_row f hs
    simp only [nd, List.map_cons, List.map_map] at ih ⊢
    rw [depF, depF]
    show (bif same h.name f then _ else _) = _
    simp only
    cases same h.name f with
    | true => rfl
    | false => simp only [cond_false]; exact ih
theorem dep_row (f : Form) (l : List Hit) : dep (nd (l.map rowOf)) f = bif decide (0 < dep (nd l) f) then dep (nd l) f - 1 else dep (nd l) f := by
  unfold dep
  cases decide (f.kind ≠ 1) with
  | true => rfl
  | false => simp only [cond_false]; exact depF_row f l
structure RowK (k : Nat) (l' l : List Hit) : Prop where
  dep : ∀ f, Abs.dep (nd l') f = lessI k (Abs.dep (nd l) f)
  len : l'.length = l.length
  fit : ∀ h ∈ l', -9223372036854775808 ≤ h.depth ∧ h.depth ≤ 9223372036854775807
theorem RowK.zero {l : List Hit} (h : ∀ h ∈ l, -9223372036854775808 ≤ h.depth ∧ h.depth ≤ 9223372036854775807) : RowK 0 l l := ⟨fun f => (lessI_zero _).symm, rfl, h⟩
theorem RowK.succ {k : Nat} {l' l : List Hit} (h : RowK k l' l) : RowK (k + 1) (l'.map rowOf) l := by
  refine ⟨fun f => by rw [dep_row, h.dep f, lessI_succ], by rw [List.length_map, h.len], fun y hy => ?_⟩
  obtain ⟨x, hx, rfl⟩ := List.mem_map.1 hy
  obtain ⟨h1, h2⟩ := h.fit x hx
  show -9223372036854775808 ≤ (bif decide (0 < x.depth) then x.depth - 1 else x.depth) ∧ (bif decide (0 < x.depth) then x.depth - 1 else x.depth) ≤ 9223372036854775807
  by_cases h0 : 0 < x.depth
  · rw [decide_eq_true h0, cond_true]; omega
  · rw [decide_eq_false h0, cond_false]; exact ⟨h1, h2⟩
end Go.Abs
end
section
set_option linter.unusedVariables false
set_option linter.unusedSimpArgs false
namespace Go.Abs
end Go.Abs
end
section
set_option linter.unusedVariables false
set_option linter.unusedSimpArgs false
namespace Go.Abs
def cntD : List Form → Nat
  | [] => 0
  | x :: xs => (bif isDots x then 1 else 0) + cntD xs
mutual
def Form.shp : Form → Bool
  | .mk k nm n sc kids => !isDots (.mk k nm n sc kids) && (Form.kP true kids && decide (cntD kids ≤ 1))
def Form.kP : Bool → List Form → Bool
  | _, [] => true
  | pd, x :: xs => (bif isDots x then !pd else x.shp) && Form.kP (isDots x) xs
end
theorem Form.shp_eq (f : Form) : f.shp = (!isDots f && (Form.kP true f.kids && decide (cntD f.kids ≤ 1))) := by obtain ⟨a, b, c, d, e⟩ := f; rw [Form.shp]; rfl
end Go.Abs
end
section
set_option linter.unusedVariables false
set_option linter.unusedSimpArgs false
namespace Go.Abs
end Go.Abs
end
section
set_option linter.unusedVariables false
set_option linter.unusedSimpArgs false
namespace Go.Abs
end Go.Abs
end
end
section
set_option linter.unusedVariables false
set_option linter.unusedSimpArgs false
namespace Go.Abs
theorem TQ.same {α : Type} {F : Nat → Option α} {v : α} (h : Tr F v) : TQ F (fun r => r = v) := ⟨v, h, rfl⟩
theorem TQ.at {α β : Type} {l : List α} {i : Int} {x : α} {g : α → Nat → Option β} {R : β → Prop} (hx : Abs.idx l i = some x) (h : TQ (fun m => g x m) R) : TQ (fun m => (Abs.idx l i).bind fun y => g y m) R := by
  obtain ⟨w, hw, hr⟩ := h
  exact ⟨w, Tr.idx hx hw, hr⟩
structure Dr (n : Nat) (f : Form) : Prop where
  w : f.w ≤ n
  fit : f.fit
theorem Dr.mono {n k : Nat} {f : Form} (h : Dr n f) (hk : n ≤ k) : Dr k f := ⟨Nat.le_trans h.w hk, h.fit⟩
end Go.Abs
end
section
set_option linter.unusedVariables false
set_option linter.unusedSimpArgs false
namespace Go.Abs
mutual
noncomputable def Form.part (x : Form) : Form → Bool
  | .mk a b c d kids => same (Form.mk a b c d kids) x || Form.parts x kids
noncomputable def Form.parts (x : Form) : List Form → Bool
  | [] => false
  | y :: ys => Form.part x y || Form.parts x ys
end
end Go.Abs
end
section
set_option linter.unusedVariables false
set_option linter.unusedSimpArgs false
namespace Go.Abs
def anys {α : Type} (D : α → Bool) : List α → Bool
  | [] => false
  | x :: xs => D x || anys D xs
theorem anys_iff {α : Type} {D : α → Bool} : ∀ {l : List α}, anys D l = true ↔ ∃ x ∈ l, D x = true
  | [] => by simp [anys]
  | x :: xs => by rw [anys, Bool.or_eq_true, anys_iff]; simp
theorem loop_any {α : Type} {xs : List α} {D : α → Bool} {L : Nat → Int → Option Bool} {E : Nat → α → Option Bool}
    (h0 : ∀ m k, L (m + 1) k = bif decide (k < (xs.length : Int)) then (idx xs k).bind fun a => (E m a).bind fun v => bif v then some true else L m (k + 1) else some false)
    (hE : ∀ a ∈ xs, Tr (fun m => E m a) (D a)) : Tr (fun m => L m 0) (anys D xs) := by
  have key := drop_ind xs (fun k zs => Tr (fun m => L m (k : Int)) (anys D zs)) ?_ ?_ 0 (Nat.zero_le _)
  · simpa using key
  · exact Tr.step (fun m => by rw [h0, ltN_self, cond_false]; rfl) Tr.val
  · intro k x zs hk hx hd ih
    refine Tr.step (fun m => by rw [h0, ltN hk, cond_true, idx_nat hx, Option.bind_some, succN]) ?_
    refine Tr.bind (hE x (List.mem_of_getElem? hx)) ?_
    rw [anys]
    cases h : D x with
    | true => exact Tr.tt rfl Tr.val
    | false => exact Tr.ff rfl (by simpa using ih)
def hasB (l : List Int) (n : Int) : Bool := anys (fun x => decide (x = n)) l
end Go.Abs
end
section
set_option linter.unusedVariables false
set_option linter.unusedSimpArgs false
namespace Go.Abs
structure PatS (p : Form) : Prop where
  ok : ∃ d, p.isOk d = true
  shp : p.shp = true
def KidS (x : Form) : Prop := (∃ d, x.isOk d = true) ∧ (isDots x = true ∨ x.shp = true)
theorem isOk_kids {f : Form} {d : Nat} (h : f.isOk d = true) : (f.kind ≠ 3 → f.kids = []) ∧ ∀ x ∈ f.kids, x.isOk (d - 1) = true := by
  rw [Form.isOk_eq] at h
  cases hd : decide (d = 0) with
  | true => rw [hd] at h; cases h
  | false =>
  rw [hd, cond_false] at h
  by_cases h1 : f.kind = 1
  · rw [decide_eq_true h1, cond_true] at h
    simp only [Bool.and_eq_true, decide_eq_true_eq] at h
    have : f.kids = [] := List.eq_nil_of_length_eq_zero (by omega)
    exact ⟨fun _ => this, fun x hx => by rw [this] at hx; cases hx⟩
  · rw [decide_eq_false h1, cond_false] at h
    by_cases h2 : f.kind = 2
    · rw [decide_eq_true h2, cond_true] at h
      simp only [Bool.and_eq_true, decide_eq_true_eq] at h
      have : f.kids = [] := List.eq_nil_of_length_eq_zero (by omega)
      exact ⟨fun _ => this, fun x hx => by rw [this] at hx; cases hx⟩
    · rw [decide_eq_false h2, cond_false] at h
      simp only [Bool.and_eq_true, decide_eq_true_eq] at h
      obtain ⟨h3, _, _, _, h4⟩ := h
      exact ⟨fun hn => absurd h3 hn, fun x hx => alls_iff.1 h4 x hx⟩
theorem kP_mem : ∀ {l : List Form} {pd : Bool}, Form.kP pd l = true → ∀ x ∈ l, isDots x = true ∨ x.shp = true
  | y :: ys, pd, h, x, hx => by
    rw [Form.kP, Bool.and_eq_true] at h
    rcases List.mem_cons.1 hx with rfl | hx
    · cases hd : isDots x with
      | true => exact .inl rfl
      | false => have := h.1; rw [hd, cond_false] at this; exact .inr this
    · exact kP_mem h.2 x hx
theorem PatS.parts {p : Form} (h : PatS p) : isDots p = false ∧ Form.kP true p.kids = true ∧ cntD p.kids ≤ 1 ∧ (∀ x ∈ p.kids, KidS x) ∧ (p.kind ≠ 3 → p.kids = []) := by
  obtain ⟨⟨d, hd⟩, hs⟩ := h
  rw [Form.shp_eq, Bool.and_eq_true, Bool.and_eq_true, Bool.not_eq_true', decide_eq_true_eq] at hs
  obtain ⟨k1, k2⟩ := isOk_kids hd
  exact ⟨hs.1, hs.2.1, hs.2.2, fun x hx => ⟨⟨_, k2 x hx⟩, kP_mem hs.2.1 x hx⟩, k1⟩
end Go.Abs
end
section
set_option linter.unusedVariables false
set_option linter.unusedSimpArgs false
namespace Go.Abs
def MR (o : Option (List Hit)) (out : List Hit) (r : List Hit × Bool) : Prop := r.2 = o.isSome ∧ ∀ h, o = some h → r.1 = out ++ h
theorem MR.none {out : List Hit} {x : List Hit} : MR none out (x, false) := ⟨rfl, fun h hh => by cases hh⟩
end Go.Abs
end
section
set_option linter.unusedVariables false
set_option linter.unusedSimpArgs false
namespace Go.Abs
def Bind.fit (b : Bind) : Prop := b.name.size ≤ 9223372036854775807 ∧ b.scopes.length ≤ 9223372036854775807
end Go.Abs
end
section
set_option linter.unusedVariables false
set_option linter.unusedSimpArgs false
namespace Go.Abs
def sumW {α : Type} (W : α → Nat) : List α → Nat
  | [] => 0
  | x :: xs => W x + sumW W xs
def Bind.wt (b : Bind) : Nat := b.name.size + b.scopes.length
def Rule.wt (r : Rule) : Nat := r.pattern.wt + r.template.wt
def Macro.wt (m : Macro) : Nat := Form.wts m.literals + (m.rules.length + sumW Rule.wt m.rules)
def Expansion.wt (x : Expansion) : Nat := (x.binds.length + sumW Bind.wt x.binds) + (x.macros.length + sumW Macro.wt x.macros)
structure Rule.fit (r : Rule) : Prop where
  p : r.pattern.fit
  t : r.template.fit
structure Macro.fit (m : Macro) : Prop where
  ll : m.literals.length ≤ 9223372036854775807
  l : Form.fits m.literals
  rl : m.rules.length ≤ 9223372036854775807
  r : ∀ r ∈ m.rules, r.fit
structure Expansion.fit (x : Expansion) : Prop where
  bl : x.binds.length ≤ 9223372036854775807
  b : ∀ b ∈ x.binds, b.fit
  ml : x.macros.length ≤ 9223372036854775807
  m : ∀ m ∈ x.macros, m.fit
end Go.Abs
end
section
set_option linter.unusedVariables false
set_option linter.unusedSimpArgs false
namespace Go.Abs
theorem fnd_any {α : Type} {D : α → Bool} {l : List α} {k : Nat} : decide (0 ≤ fnd D l k) = anys D l := by
  rw [Bool.eq_iff_iff, decide_eq_true_iff, fnd_ge, anys_iff]
end Go.Abs
end
section
set_option linter.unusedVariables false
set_option linter.unusedSimpArgs false
set_option maxHeartbeats 2000000
namespace Go.Abs
mutual
def Core.fit : Core → Prop
  | .mk _ _ name _ ids data kids => name.size ≤ 9223372036854775807 ∧ ids.length ≤ 9223372036854775807 ∧ data.fit ∧ kids.length ≤ 9223372036854775807 ∧ Core.fits kids
def Core.fits : List Core → Prop
  | [] => True
  | x :: xs => x.fit ∧ Core.fits xs
end
theorem Core.fits_mem : ∀ {l : List Core} {x : Core}, Core.fits l → x ∈ l → x.fit
  | y :: l, x, h, hx => by
    rw [Core.fits] at h
    rcases List.mem_cons.1 hx with rfl | hx
    · exact h.1
    · exact Core.fits_mem h.2 hx
theorem Core.fit.parts {f : Core} (h : f.fit) : f.name.size ≤ 9223372036854775807 ∧ f.ids.length ≤ 9223372036854775807 ∧ f.data.fit ∧ f.kids.length ≤ 9223372036854775807 ∧ Core.fits f.kids := by
  obtain ⟨a, b, c, d, e, g, k⟩ := f; rw [Core.fit] at h; exact h
theorem Core.w_pos (f : Core) : 1 ≤ f.w := by have := f.w_kids; omega
abbrev e0 : ByteArray := ⟨#[]⟩
mutual
def Form.scs : Form → List Int
  | .mk _ _ _ scopes kids => scopes ++ Form.scss kids
def Form.scss : List Form → List Int
  | [] => []
  | f :: fs => f.scs ++ Form.scss fs
end
def noScs (f : Form) : Bool := f.scs.isEmpty
theorem core_same (a b : Core) : same a b = (decide (a.kind = b.kind) && (decide (a.id = b.id) && (decide (a.name = b.name) && (decide (a.n = b.n) && (same a.ids b.ids && (same a.data b.data && same a.kids b.kids)))))) := by
  obtain ⟨a1, a2, a3, a4, a5, a6, a7⟩ := a
  obtain ⟨b1, b2, b3, b4, b5, b6, b7⟩ := b
  rw [Bool.eq_iff_iff]
  simp only [Bool.and_eq_true, same_iff, decide_eq_true_eq, Core.mk.injEq]
  exact Iff.rfl
end Go.Abs
end
section
set_option linter.unusedVariables false
set_option linter.unusedSimpArgs false
set_option maxHeartbeats 4000000
namespace Go.Abs
def idsOk : List Int → List Int → Bool
  | _, [] => true
  | inn, x :: xs => (decide (1 ≤ x) && decide (x ≤ 999)) && (!hasB inn x && idsOk (inn ++ [x]) xs)
def lenI (c : Core) (k : Int) : Bool := decide ((c.kids.length : Int) = k)
noncomputable def Core.okF (c : Core) (ar : List Int) : Bool :=
  bif decide (c.kind = 1) then (decide (1 ≤ c.id) && decide (c.id ≤ 999)) && (hasB ar c.id && (decide (c.name = e0) && (decide (c.n = 0) && (decide (c.ids = []) && (same c.data form0 && lenI c 0)))))
  else bif decide (c.kind = 2) then nmOk c.name && (decide (c.id = 0) && (decide (c.n = 0) && (decide (c.ids = []) && (same c.data form0 && lenI c 0))))
  else bif decide (c.kind = 3) then (decide (0 ≤ c.n) && decide (c.n ≤ 999)) && (decide (c.id = 0) && (decide (c.name = e0) && (decide (c.ids = []) && (same c.data form0 && lenI c 0))))
  else bif decide (c.kind = 4) then (c.data.valid && noScs c.data) && (decide (c.id = 0) && (decide (c.name = e0) && (decide (c.n = 0) && (decide (c.ids = []) && lenI c 0))))
  else bif decide (c.kind = 5) then idsOk ar c.ids && (decide (c.id = 0) && (decide (c.name = e0) && (decide (c.n = 0) && (same c.data form0 && lenI c 1))))
  else bif decide (c.kind = 6) then (decide (c.id = 0) && (decide (c.name = e0) && (decide (c.n = 0) && (decide (c.ids = []) && (same c.data form0 && decide (1 ≤ (c.kids.length : Int)))))))
  else bif decide (c.kind = 7) then (decide (c.id = 0) && (decide (c.name = e0) && (decide (c.n = 0) && (decide (c.ids = []) && (same c.data form0 && lenI c 3)))))
  else false
mutual
noncomputable def Core.isOk : Core → List Int → Nat → Bool
  | .mk a b c d e f g, ar, dd => bif decide (dd = 0) then false else Core.okF (.mk a b c d e f g) ar && Core.isOks g (ar ++ e) (dd - 1)
noncomputable def Core.isOks : List Core → List Int → Nat → Bool
  | [], _, _ => true
  | c :: cs, ar, d => c.isOk ar d && Core.isOks cs ar d
end
mutual
def Core.cnt : Core → Nat
  | .mk _ _ _ _ _ _ kids => 1 + Core.cnts kids
def Core.cnts : List Core → Nat
  | [] => 0
  | f :: fs => f.cnt + Core.cnts fs
end
theorem Core.isOks_eq (ar : List Int) (d : Nat) : ∀ l : List Core, Core.isOks l ar d = alls (fun x => x.isOk ar d) l
  | [] => rfl
  | f :: fs => by rw [Core.isOks, alls, Core.isOks_eq ar d fs]
theorem Core.isOk_eq (c : Core) (ar : List Int) (d : Nat) : c.isOk ar d = bif decide (d = 0) then false else c.okF ar && alls (fun x => x.isOk (ar ++ c.ids) (d - 1)) c.kids := by
  obtain ⟨a, b, c, d, e, f, g⟩ := c; rw [Core.isOk, Core.isOks_eq]; rfl
noncomputable def Core.valid (c : Core) : Bool := c.isOk [] 120 && decide (c.cnt ≤ 600)
end Go.Abs
end
section
set_option linter.unusedVariables false
set_option linter.unusedSimpArgs false
set_option maxHeartbeats 4000000
namespace Go.Abs
mutual
def Core.wt : Core → Nat
  | .mk _ _ name _ ids data kids => name.size + ids.length + data.wt + Core.wts kids
def Core.wts : List Core → Nat
  | [] => 0
  | f :: fs => f.wt + 1 + Core.wts fs
end
theorem Core.wt_parts (f : Core) : f.wt = f.name.size + f.ids.length + f.data.wt + Core.wts f.kids := by obtain ⟨a, b, c, d, e, g, h⟩ := f; rw [Core.wt]; rfl
mutual
theorem Core.w_wt : ∀ f : Core, f.w ≤ 2 + 3 * f.wt
  | .mk a b c d e f g => by have := Core.ws_wts g; have := f.w_wt; rw [Core.w, Core.wt]; omega
theorem Core.ws_wts : ∀ l : List Core, Core.ws l ≤ 3 * Core.wts l
  | [] => by simp [Core.ws, Core.wts]
  | f :: fs => by have := Core.w_wt f; have := Core.ws_wts fs; rw [Core.ws, Core.wts]; omega
end
theorem szCoreS_of {l : List Core} {v : Int} (hl : l.length ≤ 9223372036854775807) (h0 : 0 ≤ v) (h1 : v ≤ 2 ^ 40) (ih : ∀ x ∈ l, ∀ v : Int, 0 ≤ v → v ≤ 2 ^ 40 → TQ (fun m => m_laws_szCore m x v) (Left v x.wt)) : TQ (fun m => m_laws_szCoreS m l v) (Left v (Core.wts l)) := by
  refine TQ.step (fun m => by rw [m_laws_szCoreS, w64_in (by omega)]) ?_
  refine TQ.cond (fun _ => TQ.val (.inl rfl)) (fun h => ?_)
  replace h : 0 ≤ v - (l.length : Int) := by simpa using h
  have key := drop_ind l (fun k zs => ∀ g : Int, 0 ≤ g → g ≤ 2 ^ 40 → TQ (fun m => m_laws_szCoreS_l1 m l g (k : Int)) (fun r => r = -1 ∨ (0 ≤ r ∧ r = g - Core.wts zs + zs.length))) ?_ ?_ 0 (Nat.zero_le _) _ h (by omega)
  · refine TQ.mono (by simpa using key) (fun r hr => ?_)
    rcases hr with hr | ⟨hr, he⟩
    · exact .inl hr
    · exact .inr ⟨hr, by rw [he]; omega⟩
  · intro g hg _
    exact TQ.step (fun m => by rw [m_laws_szCoreS_l1, ltN_self, cond_false]) (TQ.val (.inr ⟨hg, by simp [Core.wts]⟩))
  · intro k x zs hk hx hd ihk g hg hg1
    refine TQ.step (fun m => by rw [m_laws_szCoreS_l1, ltN hk, cond_true, idx_nat hx, Option.bind_some, succN]) ?_
    have hm := List.mem_of_getElem? hx
    refine TQ.bind (ih x hm g hg hg1) (fun r hr => ?_)
    rcases hr with rfl | ⟨hr, rfl⟩
    · exact TQ.cond (fun _ => TQ.val (.inl rfl)) (fun h => absurd h (by decide))
    refine TQ.cond (fun h => absurd h (by rw [geZ hr]; decide)) (fun _ => ?_)
    refine TQ.mono (ihk _ hr (by omega)) (fun r hr => ?_)
    rcases hr with hr | ⟨hr, he⟩
    · exact .inl hr
    · exact .inr ⟨hr, by rw [he, Core.wts, List.length_cons]; omega⟩
theorem szCore_n : ∀ (n : Nat) (f : Core) (v : Int), f.w ≤ n → f.fit → 0 ≤ v → v ≤ 2 ^ 40 → TQ (fun m => m_laws_szCore m f v) (Left v f.wt) := by
  intro n
  induction n with
  | zero => intro a v h; have := a.w_pos; omega
  | succ n ih =>
    intro f v h hf h0 h1
    obtain ⟨f1, f2, f3, f4, f5⟩ := hf.parts
    have hw := f.w_kids
    have hwt := f.wt_parts
    refine TQ.step (fun m => by rw [m_laws_szCore, w64_in (by omega)]) ?_
    refine TQ.cond (fun _ => TQ.val (.inl rfl)) (fun h => ?_)
    replace h : 0 ≤ v - (f.name.size : Int) := by simpa using h
    refine TQ.bind (szIntS_tq _ _ f2 h (by omega)) (fun v2 h2 => ?_)
    rcases h2 with rfl | ⟨h2, rfl⟩
    · exact TQ.cond (fun _ => TQ.val (.inl rfl)) (fun h => absurd h (by decide))
    refine TQ.cond (fun h => absurd h (by rw [geZ h2]; decide)) (fun _ => ?_)
    refine TQ.bind (szForm_tq _ _ f3 h2 (by omega)) (fun v4 h4 => ?_)
    rcases h4 with rfl | ⟨h4, rfl⟩
    · exact TQ.cond (fun _ => TQ.val (.inl rfl)) (fun h => absurd h (by decide))
    refine TQ.cond (fun h => absurd h (by rw [geZ h4]; decide)) (fun _ => ?_)
    refine TQ.bind (szCoreS_of (l := f.kids) f4 h4 (by omega) (fun x hx v h0 h1 => ih x v (by have := Core.ws_mem hx; omega) (Core.fits_mem f5 hx) h0 h1)) (fun r hr => ?_)
    rcases hr with rfl | ⟨hr, rfl⟩
    · exact TQ.cond (fun _ => TQ.val (.inl rfl)) (fun h => absurd h (by decide))
    exact TQ.cond (fun h => absurd h (by rw [geZ hr]; decide)) (fun _ => TQ.val (.inr ⟨hr, by omega⟩))
theorem szCore_tq (f : Core) (v : Int) (hf : f.fit) (h0 : 0 ≤ v) (h1 : v ≤ 2 ^ 40) : TQ (fun m => m_laws_szCore m f v) (Left v f.wt) := szCore_n _ f v (Nat.le_refl _) hf h0 h1
theorem toCore_n : ∀ (n : Nat) (f : Core), f.w ≤ n → f.w ≤ 2 ^ 36 → Tr (fun m => m_laws_toCore m f) f := by
  intro n
  induction n with
  | zero => intro a h; have := a.w_pos; omega
  | succ n ih =>
    intro f h hb
    have hw := f.w_kids
    have hl := Core.ws_len f.kids
    refine Tr.step (fun m => by rw [m_laws_toCore]) (Tr.bind (toIntS_tr f.ids (by omega)) (Tr.bind (toForm_tr f.data (by omega)) (Tr.bind (v := f.kids) ?_ ?_)))
    · refine Tr.step (fun m => by rw [m_laws_toCoreS]) (Tr.chk (by simp; omega) ?_)
      have := loop_copy (xs := f.kids) (z := Core.mk 0 0 (⟨#[]⟩ : ByteArray) 0 ([] : List Int) (Form.mk 0 (⟨#[]⟩ : ByteArray) 0 ([] : List Int) ([] : List Form)) ([] : List Core)) (f := fun x => x) (L := fun m k acc => m_laws_toCoreS_l1 m f.kids k acc) (E := fun m a => m_laws_toCore m a) (fun m k acc => by rw [m_laws_toCoreS_l1]) (fun a ha => ih a (by have := Core.ws_mem ha; omega) (by have := Core.ws_mem ha; omega))
      simpa using this
    · obtain ⟨a, b, c, d, e, g, h⟩ := f; exact Tr.val
theorem toCore_tr (f : Core) (hb : f.w ≤ 2 ^ 36) : Tr (fun m => m_laws_toCore m f) f := toCore_n _ f (Nat.le_refl _) hb
theorem eqCore_n : ∀ (n : Nat) (a b : Core), a.w ≤ n → Tr (fun m => m_laws_eqCore m a b) (same a b) := by
  intro n
  induction n with
  | zero => intro a b h; have := a.w_pos; omega
  | succ n ih =>
    intro a b h
    have hw := a.w_kids
    rw [core_same]
    refine Tr.step (fun m => by rw [m_laws_eqCore]) ?_
    by_cases h1 : a.kind = b.kind
    case neg => rw [decide_eq_false h1]; exact Tr.tt (decide_eq_true h1) Tr.val
    rw [decide_eq_true h1]
    refine Tr.ff (decide_eq_false (fun h => h h1)) ?_
    by_cases h2 : a.id = b.id
    case neg => rw [decide_eq_false h2]; exact Tr.tt (decide_eq_true h2) Tr.val
    rw [decide_eq_true h2]
    refine Tr.ff (decide_eq_false (fun h => h h2)) ?_
    by_cases h3 : a.name = b.name
    case neg => rw [decide_eq_false h3]; exact Tr.tt (decide_eq_true h3) Tr.val
    rw [decide_eq_true h3]
    refine Tr.ff (decide_eq_false (fun h => h h3)) ?_
    by_cases h4 : a.n = b.n
    case neg => rw [decide_eq_false h4]; exact Tr.tt (decide_eq_true h4) Tr.val
    rw [decide_eq_true h4]
    refine Tr.ff (decide_eq_false (fun h => h h4)) (Tr.bind (eqIntS_tr _ _) ?_)
    cases same a.ids b.ids with
    | false => exact Tr.tt rfl Tr.val
    | true =>
    refine Tr.ff rfl (Tr.bind (eqForm_tr _ _) ?_)
    cases same a.data b.data with
    | false => exact Tr.tt rfl Tr.val
    | true =>
    refine Tr.ff rfl (Tr.bind (v := same a.kids b.kids) ?_ ?_)
    · refine Tr.step (fun m => by rw [m_laws_eqCoreS]) ?_
      by_cases hl : a.kids.length = b.kids.length
      · exact Tr.ff (lenE hl) (loop_eq hl (L := fun m k => m_laws_eqCoreS_l1 m a.kids b.kids k) (E := fun m x y => m_laws_eqCore m x y) (fun m k => by rw [m_laws_eqCoreS_l1]) (fun x hx y _ => ih x y (by have := Core.ws_mem hx; omega)))
      · rw [same_len hl]; exact Tr.tt (lenB hl) Tr.val
    · cases same a.kids b.kids with
      | false => exact Tr.tt rfl Tr.val
      | true => exact Tr.ff rfl Tr.val
theorem eqCore_tr (a b : Core) : Tr (fun m => m_laws_eqCore m a b) (same a b) := eqCore_n _ a b (Nat.le_refl _)
end Go.Abs
end
section
set_option linter.unusedVariables false
set_option linter.unusedSimpArgs false
set_option maxHeartbeats 4000000
namespace Go.Abs
structure AInv (m : Int → Option Int) (l r : List Int) : Prop where
  len : l.length = r.length
  nl : l.Nodup
  nr : r.Nodup
  at_ : ∀ (i : Nat) (x : Int), l[i]? = some x → m x = r[i]?
theorem AInv.nil : AInv map0 [] [] := ⟨rfl, List.nodup_nil, List.nodup_nil, fun i x h => by simp at h⟩
theorem AInv.get {m : Int → Option Int} {l r : List Int} (h : AInv m l r) {x : Int} (hx : x ∈ l) : ∃ (i : Nat) (y : Int), l[i]? = some x ∧ r[i]? = some y ∧ mapGet m x = y := by
  obtain ⟨i, hi⟩ := List.mem_iff_getElem?.1 hx
  have hl := (List.getElem?_eq_some_iff.1 hi).1
  have hr : r[i]? = some (r[i]'(by have := h.len; omega)) := List.getElem?_eq_getElem _
  refine ⟨i, _, hi, hr, ?_⟩
  unfold mapGet; rw [h.at_ i x hi, hr]; rfl
end Go.Abs
end
section
set_option linter.unusedVariables false
set_option linter.unusedSimpArgs false
set_option maxHeartbeats 4000000
namespace Go.Abs
mutual
def Core.dep : Core → Nat
  | .mk _ _ _ _ _ _ kids => Core.deps kids + 1
def Core.deps : List Core → Nat
  | [] => 0
  | x :: xs => max x.dep (Core.deps xs)
end
end Go.Abs
end
section
set_option linter.unusedVariables false
set_option linter.unusedSimpArgs false
set_option maxHeartbeats 2000000
namespace Go.Abs
open Go.Lib (itoa join joinTail decDigits nDigits)
def idTx (x : Int) : List UInt8 := [35] ++ itoa x
def Core.hd (c : Core) : List UInt8 := bif decide (c.kind = 5) then [40, 102, 117, 110, 32, 40] ++ join (c.ids.map idTx) [32] ++ [41, 32] else bif decide (c.kind = 6) then [40] else [40, 105, 102, 32]
end Go.Abs
end
section
set_option linter.unusedVariables false
set_option linter.unusedSimpArgs false
set_option maxHeartbeats 2000000
namespace Go.Abs
theorem hasS_tr (l : List ByteArray) (s : ByteArray) : Tr (fun m => m_slices_Contains_string m l s) (anys (fun y => decide (s = y)) l) := by
  refine Tr.eq (fun m => by unfold m_slices_Contains_string; rfl) (Tr.bind (v := fnd (fun y => decide (s = y)) l 0) ?_ (Tr.of fun m => by rw [fnd_any]))
  refine Tr.eq (fun m => by unfold m_slices_Index_string; rfl) ?_
  exact loop_find (L := fun m j => m_slices_Index_string_l1 m l s j) (E := fun m y => some (decide (s = y))) (fun m j => by rw [m_slices_Index_string_l1]; rfl) (fun y _ => Tr.val)
def frS (acc : List ByteArray) (nm : ByteArray) : List ByteArray := bif anys (fun y => decide (nm = y)) acc then acc else acc ++ [nm]
mutual
def Core.fr : Core → List ByteArray → List ByteArray
  | .mk k i nm n ids d kids, acc => Core.frs kids (bif decide (k = 2) then frS acc nm else acc)
def Core.frs : List Core → List ByteArray → List ByteArray
  | [], acc => acc
  | c :: cs, acc => Core.frs cs (c.fr acc)
end
theorem Core.fr_eq (c : Core) (acc : List ByteArray) : c.fr acc = Core.frs c.kids (bif decide (c.kind = 2) then frS acc c.name else acc) := by
  obtain ⟨a, b, c, d, e, f, g⟩ := c; rw [Core.fr]; rfl
theorem frS_len (acc : List ByteArray) (nm : ByteArray) : (frS acc nm).length ≤ acc.length + 1 := by
  unfold frS
  cases anys (fun y => decide (nm = y)) acc with
  | true => rw [cond_true]; omega
  | false => rw [cond_false, List.length_append]; simp
theorem fr_len : ∀ (n : Nat) (c : Core) (acc : List ByteArray), c.w ≤ n → (c.fr acc).length ≤ acc.length + c.w := by
  intro n
  induction n with
  | zero => intro c acc h; have := c.w_pos; omega
  | succ n ih =>
    intro c acc h
    have hw := c.w_kids
    have key : ∀ (l : List Core), (∀ x ∈ l, x ∈ c.kids) → ∀ acc : List ByteArray, (Core.frs l acc).length ≤ acc.length + Core.ws l := by
      intro l
      induction l with
      | nil => intro _ acc; rw [Core.frs]; omega
      | cons x l ihl =>
        intro hx acc
        have a := ihl (fun y hy => hx y (by simp [hy])) (x.fr acc)
        have b := ih x acc (by have := Core.ws_mem (hx x (by simp)); omega)
        rw [Core.frs, Core.ws]; omega
    rw [Core.fr_eq]
    have a := key c.kids (fun x hx => hx) (bif decide (c.kind = 2) then frS acc c.name else acc)
    have b := frS_len acc c.name
    cases hd : decide (c.kind = 2) with
    | true => rw [hd, cond_true] at a; rw [cond_true]; omega
    | false => rw [hd, cond_false] at a; rw [cond_false]; omega
theorem loop_fr (c : Core) (hb : c.w ≤ 2 ^ 36) (ih : ∀ x ∈ c.kids, ∀ acc : List ByteArray, acc.length + x.w ≤ 2 ^ 40 → Tr (fun m => m_impl_freeOf_f m x acc) (x.fr acc)) (acc : List ByteArray) (ha : acc.length + Core.ws c.kids ≤ 2 ^ 40) : Tr (fun m => m_impl_freeOf_f_l1 m c acc 0) (Core.frs c.kids acc) := by
  have key := drop_ind c.kids (fun k zs => ∀ acc : List ByteArray, acc.length + Core.ws zs ≤ 2 ^ 40 → Tr (fun m => m_impl_freeOf_f_l1 m c acc (k : Int)) (Core.frs zs acc)) ?_ ?_ 0 (Nat.zero_le _) acc ha
  · exact key
  · intro acc _
    refine Tr.step (fun m => by rw [m_impl_freeOf_f_l1, ltN_self, cond_false]) ?_
    rw [Core.frs]; exact Tr.val
  · intro k x zs hk hx hd ihk acc hacc
    rw [Core.ws] at hacc
    have := fr_len _ x acc (Nat.le_refl _)
    refine Tr.step (fun m => by rw [m_impl_freeOf_f_l1, ltN hk, cond_true, idx_nat hx, Option.bind_some, succN]) ?_
    refine Tr.bind (ih x (List.mem_of_getElem? hx) acc (by omega)) ?_
    rw [Core.frs]
    exact ihk _ (by omega)
theorem frStep {α : Type} (c : Core) (acc : List ByteArray) (ha : acc.length ≤ 2 ^ 40) {L : Nat → List ByteArray → Option α} {w : α} (h : Tr (fun m => L m (bif decide (c.kind = 2) then frS acc c.name else acc)) w) :
    Tr (fun m => bif decide (c.kind = 2) then (m_slices_Contains_string m acc c.name).bind fun v2 => bif (!v2) then chk (decide ((acc.length + [c.name].length) * 16 ≤ 140737488355328)) (L m (acc ++ [c.name])) else L m acc else L m acc) w := by
  cases hd : decide (c.kind = 2) with
  | false => rw [hd, cond_false] at h; exact Tr.ff rfl h
  | true =>
    refine Tr.tt rfl (Tr.bind (hasS_tr acc c.name) ?_)
    rw [hd, cond_true] at h
    unfold frS at h
    cases hh : anys (fun y => decide (c.name = y)) acc with
    | true => rw [hh, cond_true] at h; exact Tr.ff rfl h
    | false => rw [hh, cond_false] at h; exact Tr.tt rfl (Tr.chk (decide_eq_true (by simp; omega)) h)
theorem freeF_n : ∀ (n : Nat) (c : Core) (acc : List ByteArray), c.w ≤ n → c.w ≤ 2 ^ 36 → acc.length + c.w ≤ 2 ^ 40 → Tr (fun m => m_impl_freeOf_f m c acc) (c.fr acc) := by
  intro n
  induction n with
  | zero => intro c acc h; have := c.w_pos; omega
  | succ n ih =>
    intro c acc h hb ha
    have hw := c.w_kids
    refine Tr.step (fun m => by rw [m_impl_freeOf_f]) ?_
    refine frStep c acc (by omega) (L := fun m a => m_impl_freeOf_f_l1 m c a 0) ?_
    rw [Core.fr_eq]
    have e := frS_len acc c.name
    refine loop_fr c hb (fun x hx a hacc => ih x a (by have := Core.ws_mem hx; omega) (by have := Core.ws_mem hx; omega) hacc) _ ?_
    cases decide (c.kind = 2) with
    | true => rw [cond_true]; omega
    | false => rw [cond_false]; omega
theorem implFreeOf_tr (c : Core) (hb : c.w ≤ 2 ^ 36) : Tr (fun m => m_impl_FreeOf m c) (c.fr []) := by
  refine Tr.eq (fun m => by unfold m_impl_FreeOf; rfl) ?_
  refine Tr.bind (v := c.fr []) ?_ Tr.val
  refine Tr.eq (fun m => by unfold m_impl_freeOf_n; rfl) ?_
  have hw := c.w_kids
  rw [Core.fr_eq]
  have e := frS_len [] c.name
  have := frStep c [] (by simp) (L := fun m a => m_impl_freeOf_f_l1 m c a 0) (loop_fr c hb (fun x hx a hacc => freeF_n _ x a (Nat.le_refl _) (by have := Core.ws_mem hx; omega) hacc) (bif decide (c.kind = 2) then frS [] c.name else []) (by
    cases decide (c.kind = 2) with
    | true => rw [cond_true]; simp at e; omega
    | false => rw [cond_false]; simp; omega))
  refine Tr.eq (fun m => ?_) this
  simp
end Go.Abs
end
section
set_option linter.unusedVariables false
set_option linter.unusedSimpArgs false
set_option maxHeartbeats 4000000
namespace Go.Abs
section
variable {α : Type}
theorem mk_lt_mid (d : List α) (x : α) (xs : List α) : decide ((d.length : Int) < ((d ++ x :: xs).length : Int)) = true := by simp; omega
theorem mk_lt_end (d : List α) : decide ((d.length : Int) < ((d ++ []).length : Int)) = false := by simp
theorem mk_idx_mid (d : List α) (x : α) (xs : List α) : idx (d ++ x :: xs) (d.length : Int) = some x := idx_nat (by simp)
theorem mk_set_mid (d : List α) (x y : α) (xs : List α) : (d ++ x :: xs).set ((d.length : Int)).toNat y = d ++ y :: xs := by simp
theorem mk_mid_app (d : List α) (y : α) (xs : List α) : d ++ y :: xs = (d ++ [y]) ++ xs := by simp
theorem mk_mid_len (d : List α) (y : α) : (d.length : Int) + 1 = ((d ++ [y]).length : Int) := by simp
theorem mk_mid_lenw (d : List α) (y : α) (h : d.length ≤ 4611686018427387904) : w64 ((d.length : Int) + 1) = ((d ++ [y]).length : Int) := by
  rw [w64_in (by omega)]; simp
end
theorem mk_wIn {k : Int} (h0 : 0 ≤ k) (h1 : k ≤ 4611686018427387904) : w64 (k + 1) = k + 1 := w64_in (by omega)
theorem mk_ne_self_f {α : Type} [DecidableEq α] (x : α) : decide (x ≠ x) = false := by simp
theorem mk_not_neg {k : Int} (h : 0 ≤ k) : decide (k < 0) = false := by simpa using h
theorem markText_loop : ∀ (n : Nat) (k : Nat) (s : ByteArray), k < 2 ^ n → s.size + n ≤ 1000 → n ≤ 63 → ∃ t, Tr (fun m => m_laws_markText_l1 m (k : Int) s) t := by
  intro n
  induction n with
  | zero =>
    intro k s hk hs hn
    have : k = 0 := by omega
    subst this
    refine ⟨(⟨#[109]⟩ : ByteArray) ++ s, Tr.step (fun m => by rw [m_laws_markText_l1, show decide ((0 : Int) < ((0 : Nat) : Int)) = false from rfl, cond_false]) (Tr.of fun m => ?_)⟩
    · rw [bcat, decide_eq_true (by have : (⟨#[109]⟩ : ByteArray).size = 1 := rfl; omega)]; rfl
  | succ n ih =>
    intro k s hk hs hn
    by_cases h0 : k = 0
    · subst h0
      refine ⟨(⟨#[109]⟩ : ByteArray) ++ s, Tr.step (fun m => by rw [m_laws_markText_l1, show decide ((0 : Int) < ((0 : Nat) : Int)) = false from rfl, cond_false]) (Tr.of fun m => ?_)⟩
      · rw [bcat, decide_eq_true (by have : (⟨#[109]⟩ : ByteArray).size = 1 := rfl; omega)]; rfl
    · have hk2 : k / 10 < 2 ^ n := by rw [Nat.pow_succ] at hk; omega
      have hp : (2 : Nat) ^ (n + 1) ≤ 2 ^ 63 := Nat.pow_le_pow_right (by omega) (by omega)
      have hsz : (strOf [(w8 (w64 (48 + ((k : Int).tmod 10))))]).size = 1 := rfl
      have hsz2 : (strOf [(w8 (w64 (48 + ((k : Int).tmod 10))))] ++ s).size = 1 + s.size := by rw [ByteArray.size_append, hsz]
      obtain ⟨t, ht⟩ := ih (k / 10) (strOf [(w8 (w64 (48 + ((k : Int).tmod 10))))] ++ s) hk2 (by rw [hsz2]; omega) (by omega)
      refine ⟨t, Tr.step (fun m => by rw [m_laws_markText_l1, decide_eq_true (show (0 : Int) < (k : Int) by omega), cond_true, bcat, decide_eq_true (by rw [hsz]; omega), cond_true, Option.bind_some]) ?_⟩
      refine Tr.eq (fun m => ?_) ht
      have : w64 ((k : Int).tdiv 10) = ((k / 10 : Nat) : Int) := by
        rw [show ((k : Int).tdiv 10) = ((k / 10 : Nat) : Int) from rfl, w64_in (by omega)]
      rw [this]
theorem markText_tr {k : Int} (h0 : 0 ≤ k) (h1 : k ≤ 4611686018427387905) : ∃ t, Tr (fun m => m_laws_markText m k) t := by
  by_cases hk : k ≤ 0
  · exact ⟨_, Tr.of fun m => by rw [m_laws_markText, decide_eq_true hk]; rfl⟩
  · obtain ⟨n, rfl⟩ := Int.eq_ofNat_of_zero_le h0
    obtain ⟨t, ht⟩ := markText_loop 63 n ⟨#[]⟩ (by omega) (by decide) (Nat.le_refl _)
    exact ⟨t, Tr.eq (fun m => by rw [m_laws_markText, decide_eq_false hk, cond_false]) ht⟩
def MH {α : Type} (M : Nat → List α → Int → Option (Int × List α)) (H : Nat → List α → Int → Option Int) (l : List α) (b : Nat) : Prop :=
  ∀ k : Int, 0 ≤ k → k + b ≤ 4611686018427387904 → ∃ v ys, Tr (fun m => M m l k) (v, ys) ∧ k ≤ v ∧ v ≤ k + b ∧ Tr (fun m => H m ys k) v
theorem markInt_loop : ∀ (xs d : List Int) (k : Int), 0 ≤ k → k + xs.length ≤ 4611686018427387904 → ∃ v ys, Tr (fun m => m_laws_markIntS_l1 m k (d.length : Int) (d ++ xs)) (v, d ++ ys) ∧ k ≤ v ∧ v ≤ k + xs.length ∧ ∀ d' : List Int, Tr (fun m => m_laws_heldIntS_l1 m (d' ++ ys) k (d'.length : Int)) v
  | [], d, k, h0, h1 => ⟨k, [], Tr.step (fun m => by rw [m_laws_markIntS_l1, mk_lt_end, cond_false]) Tr.val, Int.le_refl _, by omega, fun d' => Tr.step (fun m => by rw [m_laws_heldIntS_l1, mk_lt_end, cond_false]) Tr.val⟩
  | x :: xs, d, k, h0, h1 => by
    rw [List.length_cons] at h1
    obtain ⟨v, ys, a1, a2, a3, a4⟩ := markInt_loop xs (d ++ [k]) (k + 1) (by omega) (by omega)
    refine ⟨v, k :: ys, ?_, by omega, by rw [List.length_cons]; omega, fun d' => ?_⟩
    · refine Tr.step (fun m => by rw [m_laws_markIntS_l1, mk_lt_mid, cond_true, mk_idx_mid, Option.bind_some, mk_set_mid]) ?_
      refine Tr.eq (fun m => ?_) (mk_mid_app d k ys ▸ a1)
      rw [mk_wIn h0 (by omega), mk_mid_len d k, mk_mid_app d k xs]
    · refine Tr.step (fun m => by rw [m_laws_heldIntS_l1, mk_lt_mid, cond_true, mk_idx_mid, Option.bind_some, mk_ne_self_f, cond_false]) ?_
      refine Tr.eq (fun m => ?_) (a4 (d' ++ [k]))
      rw [mk_wIn h0 (by omega), mk_mid_len d' k, mk_mid_app d' k ys]
theorem mhInt (l : List Int) : MH m_laws_markIntS m_laws_heldIntS l l.length := fun k h0 h1 => by
  obtain ⟨v, ys, a1, a2, a3, a4⟩ := markInt_loop l [] k h0 h1
  exact ⟨v, ys, Tr.eq (fun m => by unfold m_laws_markIntS; rfl) a1, a2, a3, Tr.eq (fun m => by unfold m_laws_heldIntS; rfl) (a4 [])⟩
theorem markString_loop : ∀ (xs d : List ByteArray) (k : Int), 0 ≤ k → k + xs.length ≤ 4611686018427387904 → ∃ v ys, Tr (fun m => m_laws_markStringS_l1 m k (d.length : Int) (d ++ xs)) (v, d ++ ys) ∧ k ≤ v ∧ v ≤ k + xs.length ∧ ∀ d' : List ByteArray, Tr (fun m => m_laws_heldStringS_l1 m (d' ++ ys) k (d'.length : Int)) v
  | [], d, k, h0, h1 => ⟨k, [], Tr.step (fun m => by rw [m_laws_markStringS_l1, mk_lt_end, cond_false]) Tr.val, Int.le_refl _, by omega, fun d' => Tr.step (fun m => by rw [m_laws_heldStringS_l1, mk_lt_end, cond_false]) Tr.val⟩
  | x :: xs, d, k, h0, h1 => by
    rw [List.length_cons] at h1
    obtain ⟨t, ht⟩ := markText_tr h0 (by omega)
    obtain ⟨v, ys, a1, a2, a3, a4⟩ := markString_loop xs (d ++ [t]) (k + 1) (by omega) (by omega)
    refine ⟨v, t :: ys, ?_, by omega, by rw [List.length_cons]; omega, fun d' => ?_⟩
    · refine Tr.step (fun m => by rw [m_laws_markStringS_l1, mk_lt_mid, cond_true]) ?_
      refine Tr.bind ht ?_
      refine Tr.eq (fun m => ?_) (mk_mid_app d t ys ▸ a1)
      rw [mk_idx_mid, Option.bind_some, mk_set_mid, mk_wIn h0 (by omega), mk_mid_len d t, mk_mid_app d t xs]
    · refine Tr.step (fun m => by rw [m_laws_heldStringS_l1, mk_lt_mid, cond_true, mk_idx_mid, Option.bind_some]) ?_
      refine Tr.bind ht ?_
      refine Tr.ff (mk_ne_self_f t) ?_
      refine Tr.eq (fun m => ?_) (a4 (d' ++ [t]))
      rw [mk_wIn h0 (by omega), mk_mid_len d' t, mk_mid_app d' t ys]
theorem mhString (l : List ByteArray) : MH m_laws_markStringS m_laws_heldStringS l l.length := fun k h0 h1 => by
  obtain ⟨v, ys, a1, a2, a3, a4⟩ := markString_loop l [] k h0 h1
  exact ⟨v, ys, Tr.eq (fun m => by unfold m_laws_markStringS; rfl) a1, a2, a3, Tr.eq (fun m => by unfold m_laws_heldStringS; rfl) (a4 [])⟩
theorem markForm_loop : ∀ (xs d : List Form) (k : Int), (∀ x ∈ xs, MH m_laws_markFormS m_laws_heldFormS x.kids (3 * Form.ws x.kids)) → d.length + xs.length ≤ 4611686018427387904 → 0 ≤ k → k + (3 * Form.ws xs : Nat) ≤ 4611686018427387904 →
    ∃ v ys, Tr (fun m => m_laws_markFormS_l1 m k (d.length : Int) (d ++ xs)) (v, d ++ ys) ∧ k ≤ v ∧ v ≤ k + (3 * Form.ws xs : Nat) ∧ ∀ d' : List Form, Tr (fun m => m_laws_heldFormS_l1 m (d' ++ ys) k (d'.length : Int)) v
  | [], d, k, ih, hl, h0, h1 => ⟨k, [], Tr.step (fun m => by rw [m_laws_markFormS_l1, mk_lt_end, cond_false]) Tr.val, Int.le_refl _, by omega, fun d' => Tr.step (fun m => by rw [m_laws_heldFormS_l1, mk_lt_end, cond_false]) Tr.val⟩
  | .mk kd nm nn sc ks :: xs, d, k, ih, hl, h0, h1 => by
    rw [Form.ws, Form.w] at h1
    rw [List.length_cons] at hl
    obtain ⟨t, ht⟩ := markText_tr (k := k + 1) (by omega) (by omega)
    obtain ⟨v1, a, b1, b2, b3, b4⟩ := mhInt sc (k + 1 + 1 + 1) (by omega) (by omega)
    obtain ⟨v2, b, c1, c2, c3, c4⟩ := ih _ (List.mem_cons_self ..) v1 (by omega) (by show v1 + (3 * Form.ws ks : Nat) ≤ _; omega)
    have c3' : v2 ≤ v1 + (3 * Form.ws ks : Nat) := c3
    obtain ⟨v, ys, a1, a2, a3, a4⟩ := markForm_loop xs (d ++ [.mk k t (k + 1 + 1) a b]) v2 (fun x hx => ih x (List.mem_cons_of_mem _ hx)) (by simp; omega) (by omega) (by omega)
    have e1 := mk_wIn h0 (by omega)
    have e2 := mk_wIn (k := k + 1) (by omega) (by omega)
    have e3 := mk_wIn (k := k + 1 + 1) (by omega) (by omega)
    refine ⟨v, .mk k t (k + 1 + 1) a b :: ys, ?_, by omega, by rw [Form.ws, Form.w]; omega, fun d' => ?_⟩
    · refine Tr.step (fun m => by rewrite [m_laws_markFormS_l1]; simp only [Form.kind, Form.name, Form.n, Form.scopes, Form.kids, mk_lt_mid, cond_true, mk_idx_mid, Option.bind_some, mk_set_mid, e1, e2, e3]; rfl) ?_
      refine Tr.bind ht ?_
      refine Tr.bind b1 ?_
      refine Tr.bind c1 ?_
      refine Tr.eq (fun m => ?_) (mk_mid_app d (.mk k t (k + 1 + 1) a b) ys ▸ a1)
      rw [← mk_mid_app, ← mk_mid_lenw _ _ (by omega)]
    · refine Tr.step (fun m => by rewrite [m_laws_heldFormS_l1]; simp only [Form.kind, Form.name, Form.n, Form.scopes, Form.kids, mk_lt_mid, cond_true, mk_idx_mid, Option.bind_some, e1, e2, e3]; rfl) ?_
      refine Tr.ff (mk_ne_self_f k) ?_
      refine Tr.bind ht (Tr.ff (mk_ne_self_f t) (Tr.ff (mk_ne_self_f (k + 1 + 1)) ?_))
      refine Tr.bind b4 (Tr.ff (mk_not_neg (by omega)) ?_)
      refine Tr.bind c4 (Tr.ff (mk_not_neg (by omega)) ?_)
      refine Tr.eq (fun m => ?_) (a4 (d' ++ [.mk k t (k + 1 + 1) a b]))
      rw [← mk_mid_app, ← mk_mid_len]
theorem mhForm_n : ∀ (n : Nat) (l : List Form), Form.ws l ≤ n → MH m_laws_markFormS m_laws_heldFormS l (3 * Form.ws l) := by
  intro n
  induction n with
  | zero =>
    intro l hl k h0 h1
    have hx := Form.ws_len l
    have : l = [] := List.eq_nil_of_length_eq_zero (by omega)
    subst this
    obtain ⟨v, ys, a1, a2, a3, a4⟩ := markForm_loop [] [] k (fun x hx => by cases hx) (by simp) h0 h1
    exact ⟨v, ys, Tr.step (fun m => by rw [m_laws_markFormS]; rfl) a1, a2, a3, Tr.step (fun m => by rw [m_laws_heldFormS]; rfl) (a4 [])⟩
  | succ n ih =>
    intro l hl k h0 h1
    have hx := Form.ws_len l
    obtain ⟨v, ys, a1, a2, a3, a4⟩ := markForm_loop l [] k (fun x hx => ih _ (by
      have := Form.ws_mem hx
      obtain ⟨p1, p2, p3, p4, p5⟩ := x
      rw [Form.w] at this
      show Form.ws p5 ≤ n
      omega)) (by simp only [List.length_nil]; omega) h0 h1
    exact ⟨v, ys, Tr.step (fun m => by rw [m_laws_markFormS]; rfl) a1, a2, a3, Tr.step (fun m => by rw [m_laws_heldFormS]; rfl) (a4 [])⟩
theorem mhForms (l : List Form) : MH m_laws_markFormS m_laws_heldFormS l (3 * Form.ws l) := mhForm_n _ l (Nat.le_refl _)
theorem mhForm (f : Form) (k : Int) (h0 : 0 ≤ k) (h1 : k + (3 * f.w : Nat) ≤ 4611686018427387904) : ∃ v a b, Tr (fun m => m_laws_markForm m f k) (v, a, b) ∧ k ≤ v ∧ v ≤ k + (3 * f.w : Nat) ∧ ∀ kd nm nn, Tr (fun m => m_laws_heldForm m (.mk kd nm nn a b) k) v := by
  obtain ⟨p1, p2, p3, p4, p5⟩ := f
  rw [Form.w] at h1 ⊢
  obtain ⟨v1, a, b1, b2, b3, b4⟩ := mhInt p4 k h0 (by omega)
  obtain ⟨v2, b, c1, c2, c3, c4⟩ := mhForms p5 v1 (by omega) (by omega)
  refine ⟨v2, a, b, ?_, by omega, by omega, fun kd nm nn => ?_⟩
  · refine Tr.eq (fun m => by unfold m_laws_markForm; rfl) ?_
    exact Tr.bind b1 (Tr.bind c1 Tr.val)
  · refine Tr.eq (fun m => by unfold m_laws_heldForm; rfl) ?_
    refine Tr.bind b4 (Tr.ff (mk_not_neg (by omega)) ?_)
    refine Tr.bind c4 (Tr.ff (mk_not_neg (by omega)) Tr.val)
theorem markCore_loop : ∀ (xs d : List Core) (k : Int), (∀ x ∈ xs, MH m_laws_markCoreS m_laws_heldCoreS x.kids (3 * Core.ws x.kids)) → d.length + xs.length ≤ 4611686018427387904 → 0 ≤ k → k + (3 * Core.ws xs : Nat) ≤ 4611686018427387904 →
    ∃ v ys, Tr (fun m => m_laws_markCoreS_l1 m k (d.length : Int) (d ++ xs)) (v, d ++ ys) ∧ k ≤ v ∧ v ≤ k + (3 * Core.ws xs : Nat) ∧ ∀ d' : List Core, Tr (fun m => m_laws_heldCoreS_l1 m (d' ++ ys) k (d'.length : Int)) v
  | [], d, k, ih, hl, h0, h1 => ⟨k, [], Tr.step (fun m => by rw [m_laws_markCoreS_l1, mk_lt_end, cond_false]) Tr.val, Int.le_refl _, by omega, fun d' => Tr.step (fun m => by rw [m_laws_heldCoreS_l1, mk_lt_end, cond_false]) Tr.val⟩
  | .mk ck ci cn cm is (.mk kd nm nn sc ks) mn :: xs, d, k, ih, hl, h0, h1 => by
    rw [Core.ws, Core.w, Form.w] at h1
    rw [List.length_cons] at hl
    obtain ⟨t, ht⟩ := markText_tr (k := k + 1 + 1) (by omega) (by omega)
    obtain ⟨v1, i', b1, b2, b3, b4⟩ := mhInt is (k + 1 + 1 + 1 + 1) (by omega) (by omega)
    obtain ⟨t', ht'⟩ := markText_tr (k := v1 + 1) (by omega) (by omega)
    obtain ⟨v2, a, d1, d2, d3, d4⟩ := mhInt sc (v1 + 1 + 1 + 1) (by omega) (by omega)
    obtain ⟨v3, b, e1, e2, e3, e4⟩ := mhForms ks v2 (by omega) (by omega)
    obtain ⟨v4, mm, f1, f2, f3, f4⟩ := ih _ (List.mem_cons_self ..) v3 (by omega) (by show v3 + (3 * Core.ws mn : Nat) ≤ _; omega)
    have f3' : v4 ≤ v3 + (3 * Core.ws mn : Nat) := f3
    obtain ⟨v, ys, a1, a2, a3, a4⟩ := markCore_loop xs (d ++ [.mk k (k + 1) t (k + 1 + 1 + 1) i' (.mk v1 t' (v1 + 1 + 1) a b) mm]) v4 (fun x hx => ih x (List.mem_cons_of_mem _ hx)) (by simp; omega) (by omega) (by omega)
    have w1 := mk_wIn h0 (by omega)
    have w2 := mk_wIn (k := k + 1) (by omega) (by omega)
    have w3 := mk_wIn (k := k + 1 + 1) (by omega) (by omega)
    have w3' := mk_wIn (k := k + 1 + 1 + 1) (by omega) (by omega)
    have w4 := mk_wIn (k := v1) (by omega) (by omega)
    have w5 := mk_wIn (k := v1 + 1) (by omega) (by omega)
    have w6 := mk_wIn (k := v1 + 1 + 1) (by omega) (by omega)
    refine ⟨v, .mk k (k + 1) t (k + 1 + 1 + 1) i' (.mk v1 t' (v1 + 1 + 1) a b) mm :: ys, ?_, by omega, by rw [Core.ws, Core.w, Form.w]; omega, fun d' => ?_⟩
    · refine Tr.step (fun m => by rewrite [m_laws_markCoreS_l1]; simp only [Form.kind, Form.name, Form.n, Form.scopes, Form.kids, Core.kind, Core.id, Core.name, Core.n, Core.ids, Core.data, Core.kids, mk_lt_mid, cond_true, mk_idx_mid, Option.bind_some, mk_set_mid, w1, w2, w3, w3']; rfl) ?_
      refine Tr.bind ht (Tr.bind b1 ?_)
      refine Tr.eq (fun m => by simp only [w4, w5, w6]; rfl) (Tr.bind ht' ?_)
      refine Tr.bind d1 (Tr.bind e1 (Tr.bind f1 ?_))
      refine Tr.eq (fun m => ?_) (mk_mid_app d (.mk k (k + 1) t (k + 1 + 1 + 1) i' (.mk v1 t' (v1 + 1 + 1) a b) mm) ys ▸ a1)
      rw [← mk_mid_app, ← mk_mid_lenw _ _ (by omega)]
    · refine Tr.step (fun m => by rewrite [m_laws_heldCoreS_l1]; simp only [Form.kind, Form.name, Form.n, Form.scopes, Form.kids, Core.kind, Core.id, Core.name, Core.n, Core.ids, Core.data, Core.kids, mk_lt_mid, cond_true, mk_idx_mid, Option.bind_some, w1, w2, w3, w3']; rfl) ?_
      refine Tr.ff (mk_ne_self_f k) (Tr.ff (mk_ne_self_f (k + 1)) ?_)
      refine Tr.bind ht (Tr.ff (mk_ne_self_f t) (Tr.ff (mk_ne_self_f (k + 1 + 1 + 1)) ?_))
      refine Tr.bind b4 (Tr.ff (mk_not_neg (by omega)) ?_)
      refine Tr.eq (fun m => by simp only [w4, w5, w6]; rfl) ?_
      refine Tr.ff (mk_ne_self_f v1) ?_
      refine Tr.bind ht' (Tr.ff (mk_ne_self_f t') (Tr.ff (mk_ne_self_f (v1 + 1 + 1)) ?_))
      refine Tr.bind d4 (Tr.ff (mk_not_neg (by omega)) ?_)
      refine Tr.bind e4 (Tr.ff (mk_not_neg (by omega)) ?_)
      refine Tr.bind f4 (Tr.ff (mk_not_neg (by omega)) ?_)
      refine Tr.eq (fun m => ?_) (a4 (d' ++ [.mk k (k + 1) t (k + 1 + 1 + 1) i' (.mk v1 t' (v1 + 1 + 1) a b) mm]))
      rw [← mk_mid_app, ← mk_mid_len]
theorem mhCore_n : ∀ (n : Nat) (l : List Core), Core.ws l ≤ n → MH m_laws_markCoreS m_laws_heldCoreS l (3 * Core.ws l) := by
  intro n
  induction n with
  | zero =>
    intro l hl k h0 h1
    have hx := Core.ws_len l
    have : l = [] := List.eq_nil_of_length_eq_zero (by omega)
    subst this
    obtain ⟨v, ys, a1, a2, a3, a4⟩ := markCore_loop [] [] k (fun x hx => by cases hx) (by simp) h0 h1
    exact ⟨v, ys, Tr.step (fun m => by rw [m_laws_markCoreS]; rfl) a1, a2, a3, Tr.step (fun m => by rw [m_laws_heldCoreS]; rfl) (a4 [])⟩
  | succ n ih =>
    intro l hl k h0 h1
    have hx := Core.ws_len l
    obtain ⟨v, ys, a1, a2, a3, a4⟩ := markCore_loop l [] k (fun x hx => ih _ (by
      have := Core.ws_mem hx
      obtain ⟨p1, p2, p3, p4, p5, p6, p7⟩ := x
      rw [Core.w] at this
      show Core.ws p7 ≤ n
      omega)) (by simp only [List.length_nil]; omega) h0 h1
    exact ⟨v, ys, Tr.step (fun m => by rw [m_laws_markCoreS]; rfl) a1, a2, a3, Tr.step (fun m => by rw [m_laws_heldCoreS]; rfl) (a4 [])⟩
theorem mhCores (l : List Core) : MH m_laws_markCoreS m_laws_heldCoreS l (3 * Core.ws l) := mhCore_n _ l (Nat.le_refl _)
theorem mhCore (f : Core) (k : Int) (h0 : 0 ≤ k) (h1 : k + (3 * f.w : Nat) ≤ 4611686018427387904) : ∃ v i a b mm, Tr (fun m => m_laws_markCore m f k) (v, i, a, b, mm) ∧ k ≤ v ∧ v ≤ k + (3 * f.w : Nat) ∧ ∀ ck ci cn cm kd nm nn, Tr (fun m => m_laws_heldCore m (.mk ck ci cn cm i (.mk kd nm nn a b) mm) k) v := by
  obtain ⟨p1, p2, p3, p4, p5, p6, p7⟩ := f
  rw [Core.w] at h1 ⊢
  obtain ⟨v1, i, b1, b2, b3, b4⟩ := mhInt p5 k h0 (by omega)
  obtain ⟨v2, a, b, c1, c2, c3, c4⟩ := mhForm p6 v1 (by omega) (by omega)
  obtain ⟨v3, mm, d1, d2, d3, d4⟩ := mhCores p7 v2 (by omega) (by omega)
  refine ⟨v3, i, a, b, mm, ?_, by omega, by omega, fun ck ci cn cm kd nm nn => ?_⟩
  · refine Tr.eq (fun m => by unfold m_laws_markCore; rfl) ?_
    exact Tr.bind b1 (Tr.bind c1 (Tr.bind d1 Tr.val))
  · refine Tr.eq (fun m => by unfold m_laws_heldCore; rfl) ?_
    refine Tr.bind b4 (Tr.ff (mk_not_neg (by omega)) ?_)
    refine Tr.bind (c4 _ _ _) (Tr.ff (mk_not_neg (by omega)) ?_)
    refine Tr.bind d4 (Tr.ff (mk_not_neg (by omega)) Tr.val)
end Go.Abs
end
section
set_option linter.unusedVariables false
set_option linter.unusedSimpArgs false
set_option maxHeartbeats 2000000
namespace Go.Abs
theorem loop_frD (c : Core) (hb : c.w ≤ 2 ^ 36) (ih : ∀ x ∈ c.kids, ∀ acc : List ByteArray, acc.length + x.w ≤ 2 ^ 40 → Tr (fun m => m_impl_freeOf_d m x acc) (x.fr acc)) (acc : List ByteArray) (ha : acc.length + Core.ws c.kids ≤ 2 ^ 40) : Tr (fun m => m_impl_freeOf_d_l1 m c acc 0) (Core.frs c.kids acc) := by
  have key := drop_ind c.kids (fun k zs => ∀ acc : List ByteArray, acc.length + Core.ws zs ≤ 2 ^ 40 → Tr (fun m => m_impl_freeOf_d_l1 m c acc (k : Int)) (Core.frs zs acc)) ?_ ?_ 0 (Nat.zero_le _) acc ha
  · exact key
  · intro acc _
    refine Tr.step (fun m => by rw [m_impl_freeOf_d_l1, ltN_self, cond_false]) ?_
    rw [Core.frs]; exact Tr.val
  · intro k x zs hk hx hd ihk acc hacc
    rw [Core.ws] at hacc
    have := fr_len _ x acc (Nat.le_refl _)
    refine Tr.step (fun m => by rw [m_impl_freeOf_d_l1, ltN hk, cond_true, idx_nat hx, Option.bind_some, succN]) ?_
    refine Tr.bind (ih x (List.mem_of_getElem? hx) acc (by omega)) ?_
    rw [Core.frs]
    exact ihk _ (by omega)
theorem freeD_n : ∀ (n : Nat) (c : Core) (acc : List ByteArray), c.w ≤ n → c.w ≤ 2 ^ 36 → acc.length + c.w ≤ 2 ^ 40 → Tr (fun m => m_impl_freeOf_d m c acc) (c.fr acc) := by
  intro n
  induction n with
  | zero => intro c acc h; have := c.w_pos; omega
  | succ n ih =>
    intro c acc h hb ha
    have hw := c.w_kids
    refine Tr.step (fun m => by rw [m_impl_freeOf_d]) ?_
    refine frStep c acc (by omega) (L := fun m a => m_impl_freeOf_d_l1 m c a 0) ?_
    rw [Core.fr_eq]
    have e := frS_len acc c.name
    refine loop_frD c hb (fun x hx a hacc => ih x a (by have := Core.ws_mem hx; omega) (by have := Core.ws_mem hx; omega) hacc) _ ?_
    cases decide (c.kind = 2) with
    | true => rw [cond_true]; omega
    | false => rw [cond_false]; omega
theorem implFreeOfD_tr (c : Core) (hb : c.w ≤ 2 ^ 36) : Tr (fun m => m_impl_FreeOf_d m c) (c.fr []) := by
  refine Tr.eq (fun m => by unfold m_impl_FreeOf_d; rfl) ?_
  refine Tr.bind (v := c.fr []) ?_ Tr.val
  refine Tr.eq (fun m => by unfold m_impl_freeOf_n_d; rfl) ?_
  have hw := c.w_kids
  rw [Core.fr_eq]
  have e := frS_len [] c.name
  have := frStep c [] (by simp) (L := fun m a => m_impl_freeOf_d_l1 m c a 0) (loop_frD c hb (fun x hx a hacc => freeD_n _ x a (Nat.le_refl _) (by have := Core.ws_mem hx; omega) hacc) (bif decide (c.kind = 2) then frS [] c.name else []) (by
    cases decide (c.kind = 2) with
    | true => rw [cond_true]; simp at e; omega
    | false => rw [cond_false]; simp; omega))
  refine Tr.eq (fun m => ?_) this
  simp
theorem inS_tr (l : List ByteArray) (s : ByteArray) : Tr (fun m => m_spec_l1In m l s) (anys (fun y => decide (s = y)) l) := by
  refine Tr.eq (fun m => by unfold m_spec_l1In; rfl) ?_
  have := loop_any (xs := l) (D := fun y => decide (s = y)) (L := fun m k => m_spec_l1In_l1 m l s k) (E := fun m a => some (decide (a = s))) (fun m k => by rw [m_spec_l1In_l1]; rfl) (fun a _ => Tr.of fun m => by rw [decide_eq_decide.2 (eq_comm (a := a) (b := s))])
  exact this
theorem frStepS {α : Type} (c : Core) (acc : List ByteArray) (ha : acc.length ≤ 2 ^ 40) {L : Nat → List ByteArray → Option α} {w : α} (h : Tr (fun m => L m (bif decide (c.kind = 2) then frS acc c.name else acc)) w) :
    Tr (fun m => bif decide (c.kind = 2) then (m_spec_l1In m acc c.name).bind fun v2 => bif (!v2) then chk (decide ((acc.length + [c.name].length) * 16 ≤ 140737488355328)) (L m (acc ++ [c.name])) else L m acc else L m acc) w := by
  cases hd : decide (c.kind = 2) with
  | false => rw [hd, cond_false] at h; exact Tr.ff rfl h
  | true =>
    refine Tr.tt rfl (Tr.bind (inS_tr acc c.name) ?_)
    rw [hd, cond_true] at h
    unfold frS at h
    cases hh : anys (fun y => decide (c.name = y)) acc with
    | true => rw [hh, cond_true] at h; exact Tr.ff rfl h
    | false => rw [hh, cond_false] at h; exact Tr.tt rfl (Tr.chk (decide_eq_true (by simp; omega)) h)
theorem loop_frS (c : Core) (hb : c.w ≤ 2 ^ 36) (ih : ∀ x ∈ c.kids, ∀ acc : List ByteArray, acc.length + x.w ≤ 2 ^ 40 → Tr (fun m => m_spec_l6Free_f m acc x) (x.fr acc)) (acc : List ByteArray) (ha : acc.length + Core.ws c.kids ≤ 2 ^ 40) : Tr (fun m => m_spec_l6Free_f_l1 m c acc 0) (Core.frs c.kids acc) := by
  have key := drop_ind c.kids (fun k zs => ∀ acc : List ByteArray, acc.length + Core.ws zs ≤ 2 ^ 40 → Tr (fun m => m_spec_l6Free_f_l1 m c acc (k : Int)) (Core.frs zs acc)) ?_ ?_ 0 (Nat.zero_le _) acc ha
  · exact key
  · intro acc _
    refine Tr.step (fun m => by rw [m_spec_l6Free_f_l1, ltN_self, cond_false]) ?_
    rw [Core.frs]; exact Tr.val
  · intro k x zs hk hx hd ihk acc hacc
    rw [Core.ws] at hacc
    have := fr_len _ x acc (Nat.le_refl _)
    refine Tr.step (fun m => by rw [m_spec_l6Free_f_l1, ltN hk, cond_true, idx_nat hx, Option.bind_some, succN]) ?_
    refine Tr.bind (ih x (List.mem_of_getElem? hx) acc (by omega)) ?_
    rw [Core.frs]
    exact ihk _ (by omega)
theorem freeS_n : ∀ (n : Nat) (c : Core) (acc : List ByteArray), c.w ≤ n → c.w ≤ 2 ^ 36 → acc.length + c.w ≤ 2 ^ 40 → Tr (fun m => m_spec_l6Free_f m acc c) (c.fr acc) := by
  intro n
  induction n with
  | zero => intro c acc h; have := c.w_pos; omega
  | succ n ih =>
    intro c acc h hb ha
    have hw := c.w_kids
    refine Tr.step (fun m => by rw [m_spec_l6Free_f]) ?_
    refine frStepS c acc (by omega) (L := fun m a => m_spec_l6Free_f_l1 m c a 0) ?_
    rw [Core.fr_eq]
    have e := frS_len acc c.name
    refine loop_frS c hb (fun x hx a hacc => ih x a (by have := Core.ws_mem hx; omega) (by have := Core.ws_mem hx; omega) hacc) _ ?_
    cases decide (c.kind = 2) with
    | true => rw [cond_true]; omega
    | false => rw [cond_false]; omega
theorem specFreeOf_tr (c : Core) (hb : c.w ≤ 2 ^ 36) : Tr (fun m => m_spec_FreeOf m c) (c.fr []) := by
  refine Tr.eq (fun m => by unfold m_spec_FreeOf; rfl) ?_
  refine Tr.bind (v := c.fr []) ?_ Tr.val
  refine Tr.eq (fun m => by unfold m_spec_l6Free; rfl) ?_
  have hw := c.w_kids
  rw [Core.fr_eq]
  have e := frS_len [] c.name
  exact frStepS c [] (by simp) (L := fun m a => m_spec_l6Free_f_l1 m c a 0) (loop_frS c hb (fun x hx a hacc => freeS_n _ x a (Nat.le_refl _) (by have := Core.ws_mem hx; omega) hacc) (bif decide (c.kind = 2) then frS [] c.name else []) (by
    cases decide (c.kind = 2) with
    | true => rw [cond_true]; simp at e; omega
    | false => rw [cond_false]; simp; omega))
theorem eqStringS_self (l : List ByteArray) : Tr (fun m => m_laws_eqStringS m l l) true := by
  refine Tr.eq (fun m => by unfold m_laws_eqStringS; rfl) (Tr.ff (mk_ne_self_f _) ?_)
  have key := drop_ind l (fun k zs => Tr (fun m => m_laws_eqStringS_l1 m l l (k : Int)) true) ?_ ?_ 0 (Nat.zero_le _)
  · exact key
  · exact Tr.step (fun m => by rw [m_laws_eqStringS_l1, ltN_self, cond_false]) Tr.val
  · intro k x zs hk hx hd ih
    exact Tr.step (fun m => by rw [m_laws_eqStringS_l1, ltN hk, cond_true, idx_nat hx, Option.bind_some, Option.bind_some, mk_ne_self_f, cond_false, succN]) ih
theorem eqCore_self (c : Core) : Tr (fun m => m_laws_eqCore m c c) true := by have := eqCore_tr c c; rwa [same_self] at this
theorem FnExactFreeOf_law (c : Core) (hf : c.fit) : TQ (fun m => m_laws_FnExactFreeOf m c) (fun r => r = true) := by
  refine ⟨true, ?_, rfl⟩
  refine Tr.eq (fun m => by unfold m_laws_FnExactFreeOf; rfl) ?_
  obtain ⟨v, hv, hl⟩ := szCore_tq c 1048576 hf (by decide) (by decide)
  refine Tr.bind hv ?_
  rcases hl with rfl | ⟨h0, rfl⟩
  · exact Tr.tt rfl Tr.val
  refine Tr.ff (geZ h0) ?_
  have hw := c.w_wt
  have hb : c.w ≤ 2 ^ 36 := by omega
  have hr := fr_len _ c [] (Nat.le_refl _)
  rw [List.length_nil] at hr
  obtain ⟨v1, q1, q2, q3, q4, m1, m2, m3, m4⟩ := mhCore c 1 (by omega) (by omega)
  obtain ⟨v, ys, a1, a2, a3, a4⟩ := mhString (c.fr []) 1 (by omega) (by omega)
  have tc := toCore_tr c hb
  have es := eqStringS_self (c.fr [])
  refine Tr.bind tc (Tr.bind (specFreeOf_tr c hb) (Tr.bind tc (Tr.bind (implFreeOfD_tr c hb) (Tr.bind es (Tr.ff rfl (Tr.bind tc (Tr.bind (eqCore_self c) (Tr.ff rfl (Tr.bind m1 (Tr.ff (mk_not_neg (by show 0 ≤ v1; omega)) (Tr.bind es ?_)))))))))))
  refine Tr.step (fun m => by rw [m_laws_FnExactFreeOf_j1]) ?_
  refine Tr.ff rfl ?_
  refine Tr.bind a1 (Tr.bind a4 (Tr.ff (mk_not_neg (by omega)) (Tr.ff (mk_ne_self_f v) ?_)))
  refine Tr.bind tc (Tr.bind (implFreeOf_tr c hb) (Tr.bind es (Tr.ff rfl ?_)))
  exact Tr.bind a4 (Tr.ff (mk_not_neg (by omega)) (Tr.ff (mk_ne_self_f v) Tr.val))
end Go.Abs
end
