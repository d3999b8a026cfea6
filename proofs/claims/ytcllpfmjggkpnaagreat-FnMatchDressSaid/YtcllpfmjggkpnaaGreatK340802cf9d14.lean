/- A part of the proof: what the functions that the law calls answer, as pure values. -/
import Derived.KernelRfl
import Derived.Test.YtcllpfmjggkpnaaGreatK73f09199af94
import Derived.Test.YtcllpfmjggkpnaaGreatKa15390ddf9b4
import Derived.Test.YtcllpfmjggkpnaaGreatKfed158489141
set_option linter.unusedSimpArgs false
set_option linter.unusedVariables false
section
set_option linter.unusedVariables false
namespace Go.Abs
def Tr {α : Type} (F : Nat → Option α) (v : α) : Prop := ∃ n, ∀ m, n ≤ m → F m = some v
theorem Tr.val {α : Type} {v : α} : Tr (fun _ => some v) v := ⟨0, fun _ _ => rfl⟩
theorem Tr.of {α : Type} {F : Nat → Option α} {v : α} (h : ∀ m, F m = some v) : Tr F v := ⟨0, fun m _ => h m⟩
theorem Tr.bind {α β : Type} {f : Nat → Option α} {g : α → Nat → Option β} {v : α} {w : β} (h1 : Tr f v) (h2 : Tr (fun m => g v m) w) : Tr (fun m => (f m).bind fun x => g x m) w := by
  obtain ⟨n1, h1⟩ := h1
  obtain ⟨n2, h2⟩ := h2
  refine ⟨n1 + n2, fun m hm => ?_⟩
  show (f m).bind _ = _
  rw [h1 m (by omega)]
  exact h2 m (by omega)
theorem Tr.step {α : Type} {F G : Nat → Option α} {v : α} (h : ∀ m, F (m + 1) = G m) (hg : Tr G v) : Tr F v := by
  obtain ⟨n, hg⟩ := hg
  refine ⟨n + 1, fun m hm => ?_⟩
  obtain ⟨k, rfl⟩ : ∃ k, m = k + 1 := ⟨m - 1, by omega⟩
  rw [h, hg k (by omega)]
theorem Tr.eq {α : Type} {F G : Nat → Option α} {v : α} (h : ∀ m, F m = G m) (hg : Tr G v) : Tr F v := by
  obtain ⟨n, hg⟩ := hg
  exact ⟨n, fun m hm => by rw [h, hg m hm]⟩
theorem Tr.tt {α : Type} {F G : Nat → Option α} {b : Bool} {v : α} (hb : b = true) (h : Tr F v) : Tr (fun m => bif b then F m else G m) v := by subst hb; exact h
theorem Tr.ff {α : Type} {F G : Nat → Option α} {b : Bool} {v : α} (hb : b = false) (h : Tr G v) : Tr (fun m => bif b then F m else G m) v := by subst hb; exact h
theorem Tr.chk {α : Type} {F : Nat → Option α} {b : Bool} {v : α} (hb : b = true) (h : Tr F v) : Tr (fun m => Abs.chk b (F m)) v := by subst hb; exact h
theorem Tr.idx {α β : Type} {l : List α} {i : Int} {x : α} {g : α → Nat → Option β} {w : β} (hx : idx l i = some x) (h : Tr (fun m => g x m) w) : Tr (fun m => (Abs.idx l i).bind fun y => g y m) w := by
  rw [hx]; exact h
theorem Tr.get {α : Type} {F : Nat → Option α} {v : α} (h : Tr F v) : ∃ n, F n = some v := by
  obtain ⟨n, h⟩ := h; exact ⟨n, h n (Nat.le_refl n)⟩
theorem zJ {α : Type} {l : List α} {k : Nat} {x : α} (h : l[k]? = some x) : idx l (k : Int) = some x := by
  unfold idx
  simp [h]
theorem idx_int {α : Type} {l : List α} {i : Int} (h0 : 0 ≤ i) (h1 : i < l.length) : ∃ x, idx l i = some x ∧ x ∈ l := by
  obtain ⟨k, rfl⟩ := Int.eq_ofNat_of_zero_le h0
  have hk : k < l.length := by omega
  exact ⟨l[k], zJ (List.getElem?_eq_getElem hk), List.getElem_mem hk⟩
theorem zaB {α : Type} (l : List α) (motive : Nat → List α → Prop) (nil : motive l.length [])
    (cons : ∀ k x xs, k < l.length → l[k]? = some x → l.drop k = x :: xs → motive (k + 1) xs → motive k (x :: xs)) : ∀ k, k ≤ l.length → motive k (l.drop k) := by
  have key : ∀ n k, l.length - k = n → k ≤ l.length → motive k (l.drop k) := by
    intro n
    induction n with
    | zero =>
      intro k hk hle
      have : k = l.length := by omega
      subst this
      rw [List.drop_length]; exact nil
    | succ n ih =>
      intro k hk hle
      have hlt : k < l.length := by omega
      have := ih (k + 1) (by omega) (by omega)
      rw [List.drop_eq_getElem_cons hlt]
      exact cons k _ _ hlt (List.getElem?_eq_getElem hlt) (List.drop_eq_getElem_cons hlt) this
  exact fun k hk => key _ k rfl hk
theorem ltN {k n : Nat} (h : k < n) : decide ((k : Int) < (n : Int)) = true := by simpa using h
theorem geN {k n : Nat} (h : ¬ k < n) : decide ((k : Int) < (n : Int)) = false := by simpa using h
theorem zah {n : Nat} : decide ((n : Int) < (n : Int)) = false := by simp
theorem zck (k : Nat) : (k : Int) + 1 = ((k + 1 : Nat) : Int) := by simp
theorem zay {n : Int} (h : -9223372036854775808 ≤ n ∧ n ≤ 9223372036854775807) : w64 n = n := IntWalk.i64_in n (by omega)
def TQ {α : Type} (F : Nat → Option α) (Q : α → Prop) : Prop := ∃ r, Tr F r ∧ Q r
theorem TQ.val {α : Type} {v : α} {Q : α → Prop} (h : Q v) : TQ (fun _ => some v) Q := ⟨v, Tr.val, h⟩
theorem TQ.bind {α β : Type} {f : Nat → Option α} {g : α → Nat → Option β} {Q : α → Prop} {R : β → Prop} (h1 : TQ f Q) (h2 : ∀ v, Q v → TQ (fun m => g v m) R) : TQ (fun m => (f m).bind fun x => g x m) R := by
  obtain ⟨v, h1, hq⟩ := h1
  obtain ⟨w, h2, hr⟩ := h2 v hq
  exact ⟨w, h1.bind h2, hr⟩
theorem TQ.ev {α β : Type} {f : Nat → Option α} {g : α → Nat → Option β} {v : α} {R : β → Prop} (h1 : Tr f v) (h2 : TQ (fun m => g v m) R) : TQ (fun m => (f m).bind fun x => g x m) R := by
  obtain ⟨w, h2, hr⟩ := h2
  exact ⟨w, h1.bind h2, hr⟩
theorem TQ.step {α : Type} {F G : Nat → Option α} {Q : α → Prop} (h : ∀ m, F (m + 1) = G m) (hg : TQ G Q) : TQ F Q := by
  obtain ⟨v, h1, hq⟩ := hg
  exact ⟨v, Tr.step h h1, hq⟩
theorem TQ.eq {α : Type} {F G : Nat → Option α} {Q : α → Prop} (h : ∀ m, F m = G m) (hg : TQ G Q) : TQ F Q := by
  obtain ⟨v, h1, hq⟩ := hg
  exact ⟨v, Tr.eq h h1, hq⟩
theorem TQ.cond {α : Type} {F G : Nat → Option α} {b : Bool} {Q : α → Prop} (h1 : b = true → TQ F Q) (h2 : b = false → TQ G Q) : TQ (fun m => bif b then F m else G m) Q := by
  cases b
  · exact h2 rfl
  · exact h1 rfl
theorem TQ.chk {α : Type} {F : Nat → Option α} {b : Bool} {Q : α → Prop} (hb : b = true) (h : TQ F Q) : TQ (fun m => Abs.chk b (F m)) Q := by subst hb; exact h
theorem TQ.idx {α β : Type} {l : List α} {i : Int} {g : α → Nat → Option β} {R : β → Prop} (h0 : 0 ≤ i) (h1 : i < l.length) (h : ∀ x, x ∈ l → TQ (fun m => g x m) R) : TQ (fun m => (Abs.idx l i).bind fun y => g y m) R := by
  obtain ⟨x, hx, hm⟩ := idx_int h0 h1
  obtain ⟨w, hw, hr⟩ := h x hm
  exact ⟨w, Tr.idx hx hw, hr⟩
theorem TQ.mono {α : Type} {F : Nat → Option α} {Q R : α → Prop} (h : TQ F Q) (hq : ∀ v, Q v → R v) : TQ F R := by
  obtain ⟨v, h1, h2⟩ := h; exact ⟨v, h1, hq v h2⟩
mutual
def Form.w : Form → Nat
  | .mk _ _ _ scopes kids => 1 + scopes.length + Form.ws kids
def Form.ws : List Form → Nat
  | [] => 0
  | f :: fs => 1 + f.w + Form.ws fs
end
mutual
def Core.w : Core → Nat
  | .mk _ _ _ _ ids data kids => 1 + ids.length + data.w + Core.ws kids
def Core.ws : List Core → Nat
  | [] => 0
  | f :: fs => 1 + f.w + Core.ws fs
end
theorem Form.ws_len : ∀ (l : List Form), l.length ≤ Form.ws l
  | [] => by simp
  | f :: fs => by have := Form.ws_len fs; rw [Form.ws, List.length_cons]; omega
theorem Core.ws_len : ∀ (l : List Core), l.length ≤ Core.ws l
  | [] => by simp
  | f :: fs => by have := Core.ws_len fs; rw [Core.ws, List.length_cons]; omega
theorem Form.ws_mem : ∀ {l : List Form} {x : Form}, x ∈ l → x.w < Form.ws l
  | f :: fs, x, h => by
    rw [Form.ws]
    rcases List.mem_cons.1 h with rfl | h
    · omega
    · have := Form.ws_mem h; omega
theorem Core.ws_mem : ∀ {l : List Core} {x : Core}, x ∈ l → x.w < Core.ws l
  | f :: fs, x, h => by
    rw [Core.ws]
    rcases List.mem_cons.1 h with rfl | h
    · omega
    · have := Core.ws_mem h; omega
theorem Form.ws_append (a b : List Form) : Form.ws (a ++ b) = Form.ws a + Form.ws b := by
  induction a with
  | nil => simp [Form.ws]
  | cons x a ih => rw [List.cons_append, Form.ws, Form.ws, ih]; omega
theorem Core.ws_append (a b : List Core) : Core.ws (a ++ b) = Core.ws a + Core.ws b := by
  induction a with
  | nil => simp [Core.ws]
  | cons x a ih => rw [List.cons_append, Core.ws, Core.ws, ih]; omega
theorem Form.w_kids (f : Form) : Form.ws f.kids + f.scopes.length + 1 = f.w := by obtain ⟨a, b, c, d, e⟩ := f; simp only [Form.w, Form.kids, Form.scopes]; omega
theorem Core.w_kids (f : Core) : Core.ws f.kids + f.ids.length + f.data.w + 1 = f.w := by obtain ⟨a, b, c, d, e, g, h⟩ := f; simp only [Core.w, Core.kids, Core.ids, Core.data]; omega
structure OkRd (r : zb9) (K : Int) : Prop where
  len : r.b.length ≤ 2000
  byte : ∀ x ∈ r.b, 0 ≤ x ∧ x < 256
  lo : 0 ≤ r.p
  hi : r.p ≤ K
theorem OkRd.mono {r : zb9} {K K' : Int} (h : OkRd r K) (hk : K ≤ K') : OkRd r K' := ⟨h.len, h.byte, h.lo, by have := h.hi; omega⟩
theorem OkRd.mk' {r : zb9} {K : Int} (h : OkRd r K) : OkRd (zb9.mk r.b r.p) K := h
end Go.Abs
end
section
section
set_option linter.unusedVariables false
set_option linter.unusedSimpArgs false
namespace Go.Abs
noncomputable def same {α : Type} (a b : α) : Bool := @decide (a = b) (Classical.propDecidable _)
theorem zfn {α : Type} {a b : α} : same a b = true ↔ a = b := by unfold same; exact @decide_eq_true_iff _ (Classical.propDecidable _)
theorem zeS {α : Type} (a : α) : same a a = true := zfn.2 rfl
theorem same_ne {α : Type} {a b : α} (h : a ≠ b) : same a b = false := by
  rw [← Bool.not_eq_true, zfn]; exact h
theorem same_dec {α : Type} (a b : α) [inst : Decidable (a = b)] : same a b = decide (a = b) := by
  rw [Bool.eq_iff_iff, zfn, decide_eq_true_iff]
theorem same_cons {α : Type} (a b : α) (xs ys : List α) : same (a :: xs) (b :: ys) = (same a b && same xs ys) := by
  rw [Bool.eq_iff_iff, Bool.and_eq_true, zfn, zfn, zfn, List.cons.injEq]
theorem drop_get {α : Type} {l : List α} {k : Nat} {x : α} (h : l[k]? = some x) : l.drop k = x :: l.drop (k + 1) := by
  obtain ⟨hk, rfl⟩ := List.getElem?_eq_some_iff.1 h
  exact List.drop_eq_getElem_cons hk
theorem loop_eq {α : Type} {xs ys : List α} (hl : xs.length = ys.length) {L : Nat → Int → Option Bool} {E : Nat → α → α → Option Bool}
    (h0 : ∀ m k, L (m + 1) k = bif decide (k < (xs.length : Int)) then (idx xs k).bind fun a => (idx ys k).bind fun b => (E m a b).bind fun v => bif !v then some false else L m (k + 1) else some true)
    (hE : ∀ a ∈ xs, ∀ b ∈ ys, Tr (fun m => E m a b) (same a b)) : Tr (fun m => L m 0) (same xs ys) := by
  have key := zaB xs (fun k zs => Tr (fun m => L m (k : Int)) (same zs (ys.drop k))) ?_ ?_ 0 (Nat.zero_le _)
  · simpa using key
  · rw [hl, List.drop_length, zeS]
    exact Tr.step (fun m => by rw [h0, hl, zah, cond_false]) Tr.val
  · intro k x zs hk hx hd ih
    have hk' : k < ys.length := by omega
    have hy : ys[k]? = some ys[k] := List.getElem?_eq_getElem hk'
    rw [drop_get hy, same_cons]
    refine Tr.step (fun m => by rw [h0, ltN hk, cond_true, zJ hx, Option.bind_some, zJ hy, Option.bind_some, zck]) ?_
    refine Tr.bind (hE x (List.mem_of_getElem? hx) ys[k] (List.getElem_mem hk')) ?_
    cases h : same x ys[k] with
    | false => exact Tr.tt rfl Tr.val
    | true => exact Tr.ff rfl ih
theorem loop_eqI {α : Type} [DecidableEq α] {xs ys : List α} (hl : xs.length = ys.length) {L : Nat → Int → Option Bool}
    (h0 : ∀ m k, L (m + 1) k = bif decide (k < (xs.length : Int)) then (idx xs k).bind fun a => (idx ys k).bind fun b => bif decide (a ≠ b) then some false else L m (k + 1) else some true) : Tr (fun m => L m 0) (same xs ys) :=
  loop_eq (E := fun _ a b => some (decide (a = b))) hl (fun m k => by
    rw [h0]; congr 1; congr 1; funext a; congr 1; funext b; rw [Option.bind_some]; congr 1; simp) (fun a _ b _ => Tr.of (fun _ => by rw [same_dec]))
def alls {α : Type} (D : α → Bool) : List α → Bool
  | [] => true
  | x :: xs => D x && alls D xs
theorem zfc {α : Type} {D : α → Bool} : ∀ {l : List α}, alls D l = true ↔ ∀ x ∈ l, D x = true
  | [] => by simp [alls]
  | x :: xs => by rw [alls, Bool.and_eq_true, zfc]; simp
theorem loop_all {α : Type} {xs : List α} {c : Bool} {D : α → Bool} {L : Nat → Int → Option Bool} {E : Nat → α → Option Bool}
    (h0 : ∀ m k, L (m + 1) k = bif decide (k < (xs.length : Int)) then (idx xs k).bind fun a => (E m a).bind fun v => bif !v then some false else L m (k + 1) else some c)
    (hE : ∀ a ∈ xs, Tr (fun m => E m a) (D a)) : Tr (fun m => L m 0) (alls D xs && c) := by
  have key := zaB xs (fun k zs => Tr (fun m => L m (k : Int)) (alls D zs && c)) ?_ ?_ 0 (Nat.zero_le _)
  · simpa using key
  · exact Tr.step (fun m => by rw [h0, zah, cond_false]) (by simpa [alls] using Tr.val)
  · intro k x zs hk hx hd ih
    refine Tr.step (fun m => by rw [h0, ltN hk, cond_true, zJ hx, Option.bind_some, zck]) ?_
    refine Tr.bind (hE x (List.mem_of_getElem? hx)) ?_
    rw [alls]
    cases h : D x with
    | false => exact Tr.tt rfl Tr.val
    | true => exact Tr.ff rfl (by simpa using ih)
def fnd {α : Type} (D : α → Bool) : List α → Nat → Int
  | [], _ => -1
  | x :: xs, k => bif D x then (k : Int) else fnd D xs (k + 1)
theorem fnd_ge {α : Type} {D : α → Bool} : ∀ {l : List α} {k : Nat}, (0 ≤ fnd D l k) ↔ ∃ x ∈ l, D x = true
  | [], k => by simp [fnd]
  | x :: xs, k => by
    rw [fnd]
    cases h : D x with
    | true => simp [h]
    | false => rw [cond_false, fnd_ge]; simp [h]
theorem zf8 {α : Type} {xs : List α} {D : α → Bool} {L : Nat → Int → Option Int} {E : Nat → α → Option Bool}
    (h0 : ∀ m k, L (m + 1) k = bif decide (k < (xs.length : Int)) then (idx xs k).bind fun a => (E m a).bind fun v => bif v then some k else L m (k + 1) else some (-1))
    (hE : ∀ a ∈ xs, Tr (fun m => E m a) (D a)) : Tr (fun m => L m 0) (fnd D xs 0) := by
  have key := zaB xs (fun k zs => Tr (fun m => L m (k : Int)) (fnd D zs k)) ?_ ?_ 0 (Nat.zero_le _)
  · simpa using key
  · exact Tr.step (fun m => by rw [h0, zah, cond_false]; rfl) Tr.val
  · intro k x zs hk hx hd ih
    refine Tr.step (fun m => by rw [h0, ltN hk, cond_true, zJ hx, Option.bind_some, zck]) ?_
    refine Tr.bind (hE x (List.mem_of_getElem? hx)) ?_
    rw [fnd]
    cases h : D x with
    | false => exact Tr.ff rfl ih
    | true => exact Tr.tt rfl Tr.val
end Go.Abs
end
section
set_option linter.unusedVariables false
set_option linter.unusedSimpArgs false
namespace Go.Abs
mutual
def Hit.w : Hit → Nat
  | .mk name _ one many => 1 + name.w + one.w + Hit.ws many
def Hit.ws : List Hit → Nat
  | [] => 0
  | f :: fs => 1 + f.w + Hit.ws fs
end
theorem Hit.ws_len : ∀ (l : List Hit), l.length ≤ Hit.ws l
  | [] => by simp
  | f :: fs => by have := Hit.ws_len fs; rw [Hit.ws, List.length_cons]; omega
theorem Hit.ws_mem : ∀ {l : List Hit} {x : Hit}, x ∈ l → x.w < Hit.ws l
  | f :: fs, x, h => by
    rw [Hit.ws]
    rcases List.mem_cons.1 h with rfl | h
    · omega
    · have := Hit.ws_mem h; omega
theorem Hit.w_parts (f : Hit) : Hit.ws f.many + f.name.w + f.one.w + 1 = f.w := by obtain ⟨a, b, c, d⟩ := f; simp only [Hit.w, Hit.many, Hit.name, Hit.one]; omega
theorem Form.w_pos (f : Form) : 1 ≤ f.w := by have := f.w_kids; omega
theorem same_len {α : Type} {a b : List α} (h : a.length ≠ b.length) : same a b = false := same_ne (fun e => h (by rw [e]))
theorem form_same (a b : Form) : same a b = (decide (a.kind = b.kind) && (decide (a.name = b.name) && (decide (a.n = b.n) && (same a.scopes b.scopes && same a.kids b.kids)))) := by
  obtain ⟨k, nm, n, sc, ki⟩ := a
  obtain ⟨k', nm', n', sc', ki'⟩ := b
  show _ = (decide (k = k') && (decide (nm = nm') && (decide (n = n') && (same sc sc' && same ki ki'))))
  rw [Bool.eq_iff_iff]
  simp only [Bool.and_eq_true, zfn, decide_eq_true_eq, Form.mk.injEq]
theorem hit_same (a b : Hit) : same a b = (same a.name b.name && (decide (a.depth = b.depth) && (same a.one b.one && same a.many b.many))) := by
  obtain ⟨k, nm, n, sc⟩ := a
  obtain ⟨k', nm', n', sc'⟩ := b
  show _ = (same k k' && (decide (nm = nm') && (same n n' && same sc sc')))
  rw [Bool.eq_iff_iff]
  simp only [Bool.and_eq_true, zfn, decide_eq_true_eq, Hit.mk.injEq]
theorem lenB {a b : Nat} (h : a ≠ b) : decide ((a : Int) ≠ (b : Int)) = true := decide_eq_true (by omega)
theorem lenE {a b : Nat} (h : a = b) : decide ((a : Int) ≠ (b : Int)) = false := decide_eq_false (by omega)
theorem slEqual_tr (a b : List Int) : Tr (fun m => zcz m a b) (same a b) := by
  refine Tr.eq (fun m => by unfold zcz; rfl) ?_
  by_cases h : a.length = b.length
  · exact Tr.ff (lenE h) (loop_eqI h (L := fun m k => zbq m a b k) (fun m k => by rw [zbq]))
  · rw [same_len h]; exact Tr.tt (lenB h) Tr.val
theorem l1Ints_tr (a b : List Int) : Tr (fun m => zeH m a b) (same a b) := by
  refine Tr.eq (fun m => by unfold zeH; rfl) ?_
  by_cases h : a.length = b.length
  · exact Tr.ff (lenE h) (loop_eqI h (L := fun m k => zcI m a b k) (fun m k => by rw [zcI]))
  · rw [same_len h]; exact Tr.tt (lenB h) Tr.val
theorem implFormSame_n : ∀ (n : Nat) (a b : Form), a.w ≤ n → Tr (fun m => zaC m a b) (same a b) := by
  intro n
  induction n with
  | zero => intro a b h; have := a.w_pos; omega
  | succ n ih =>
    intro a b h
    have hw := a.w_kids
    rw [form_same]
    refine Tr.step (fun m => by rw [zaC]) ?_
    cases decide (a.kind = b.kind) with
    | false => exact Tr.ff rfl Tr.val
    | true =>
    refine Tr.tt rfl ?_
    cases decide (a.name = b.name) with
    | false => exact Tr.ff rfl Tr.val
    | true =>
    refine Tr.tt rfl ?_
    cases decide (a.n = b.n) with
    | false => exact Tr.ff rfl Tr.val
    | true =>
    refine Tr.tt rfl (Tr.bind (slEqual_tr _ _) ?_)
    cases same a.scopes b.scopes with
    | false => exact Tr.ff rfl Tr.val
    | true =>
    refine Tr.tt rfl (Tr.bind (v := same a.kids b.kids) (Tr.step (fun m => by rw [zaS]) ?_) Tr.val)
    by_cases hl : a.kids.length = b.kids.length
    · exact Tr.ff (lenE hl) (loop_eq hl (L := fun m k => zU m a.kids b.kids k) (E := fun m x y => zaC m x y) (fun m k => by rw [zU]) (fun x hx y _ => ih x y (by have := Form.ws_mem hx; omega)))
    · rw [same_len hl]; exact Tr.tt (lenB hl) Tr.val
theorem zc3 (a b : Form) : Tr (fun m => zaC m a b) (same a b) := implFormSame_n _ a b (Nat.le_refl _)
theorem specFormSame_n : ∀ (n : Nat) (a b : Form), a.w ≤ n → Tr (fun m => zbG m a b) (same a b) := by
  intro n
  induction n with
  | zero => intro a b h; have := a.w_pos; omega
  | succ n ih =>
    intro a b h
    have hw := a.w_kids
    rw [form_same]
    refine Tr.step (fun m => by rw [zbG]) ?_
    by_cases h1 : a.kind = b.kind
    case neg => rw [decide_eq_false h1]; exact Tr.tt (by simpa using h1) Tr.val
    rw [decide_eq_true h1]
    refine Tr.ff (by simpa using h1) ?_
    by_cases h2 : a.name = b.name
    case neg => rw [decide_eq_false h2]; exact Tr.tt (by simpa using h2) Tr.val
    rw [decide_eq_true h2]
    refine Tr.ff (by simpa using h2) ?_
    by_cases h3 : a.n = b.n
    case neg => rw [decide_eq_false h3]; exact Tr.tt (by simpa using h3) Tr.val
    rw [decide_eq_true h3]
    refine Tr.ff (by simpa using h3) (Tr.bind (l1Ints_tr _ _) ?_)
    cases same a.scopes b.scopes with
    | false => exact Tr.tt rfl Tr.val
    | true =>
    refine Tr.ff rfl ?_
    by_cases hl : a.kids.length = b.kids.length
    · exact Tr.ff (lenE hl) (loop_eq hl (L := fun m k => zbR m a b k) (E := fun m x y => zbG m x y) (fun m k => by rw [zbR]) (fun x hx y _ => ih x y (by have := Form.ws_mem hx; omega)))
    · rw [same_len hl]; exact Tr.tt (lenB hl) Tr.val
theorem specFormSame_tr (a b : Form) : Tr (fun m => zbG m a b) (same a b) := specFormSame_n _ a b (Nat.le_refl _)
end Go.Abs
end
section
set_option linter.unusedVariables false
set_option linter.unusedSimpArgs false
namespace Go.Abs
mutual
def Form.fit : Form → Prop
  | .mk _ name _ scopes kids => name.size ≤ 9223372036854775807 ∧ scopes.length ≤ 9223372036854775807 ∧ kids.length ≤ 9223372036854775807 ∧ Form.fits kids
def Form.fits : List Form → Prop
  | [] => True
  | f :: fs => f.fit ∧ Form.fits fs
end
mutual
def Hit.fit : Hit → Prop
  | .mk name _ one many => name.fit ∧ one.fit ∧ many.length ≤ 9223372036854775807 ∧ Hit.fits many
def Hit.fits : List Hit → Prop
  | [] => True
  | f :: fs => f.fit ∧ Hit.fits fs
end
theorem Form.fits_mem : ∀ {l : List Form} {x : Form}, Form.fits l → x ∈ l → x.fit
  | f :: fs, x, h, hx => by
    rw [Form.fits] at h
    rcases List.mem_cons.1 hx with rfl | hx
    · exact h.1
    · exact Form.fits_mem h.2 hx
theorem Hit.fits_mem : ∀ {l : List Hit} {x : Hit}, Hit.fits l → x ∈ l → x.fit
  | f :: fs, x, h, hx => by
    rw [Hit.fits] at h
    rcases List.mem_cons.1 hx with rfl | hx
    · exact h.1
    · exact Hit.fits_mem h.2 hx
theorem Form.fit.parts {f : Form} (h : f.fit) : f.name.size ≤ 9223372036854775807 ∧ f.scopes.length ≤ 9223372036854775807 ∧ f.kids.length ≤ 9223372036854775807 ∧ Form.fits f.kids := by
  obtain ⟨a, b, c, d, e⟩ := f; rw [Form.fit] at h; exact h
theorem Hit.fit.parts {f : Hit} (h : f.fit) : f.name.fit ∧ f.one.fit ∧ f.many.length ≤ 9223372036854775807 ∧ Hit.fits f.many := by
  obtain ⟨a, b, c, d⟩ := f; rw [Hit.fit] at h; exact h
end Go.Abs
end
section
set_option linter.unusedVariables false
set_option linter.unusedSimpArgs false
namespace Go.Abs
def letterB (c : Int) (first : Bool) : Bool := (decide (97 ≤ c) && decide (c ≤ 122)) || (decide (c = 42) || (decide (c = 63) || (decide (c = 61) || (decide (c = 43) || (decide (c = 60) || (!first && ((decide (48 ≤ c) && decide (c ≤ 57)) || decide (c = 45))))))))
theorem l1Letter_tr (c : Int) (first : Bool) : Tr (fun m => zeq m c first) (letterB c first) := by
  refine Tr.of (fun m => ?_)
  unfold zeq letterB
  cases decide (97 ≤ c) <;> cases decide (c ≤ 122) <;> cases decide (c = 42) <;> cases decide (c = 63) <;> cases decide (c = 61) <;> cases decide (c = 43) <;> cases decide (c = 60) <;> cases first <;> cases decide (48 ≤ c) <;> cases decide (c ≤ 57) <;> rfl
def nmF : Nat → List UInt8 → Bool
  | _, [] => true
  | k, x :: xs => letterB (x.toNat : Int) (decide ((k : Int) = 0)) && nmF (k + 1) xs
def nmSz (s : ByteArray) : Bool := decide (1 ≤ (s.size : Int)) && decide ((s.size : Int) ≤ 12)
def nmOk (s : ByteArray) : Bool := decide (s = (⟨#[46, 46, 46]⟩ : ByteArray)) || (decide (s = (⟨#[95]⟩ : ByteArray)) || (nmF 0 s.data.toList && nmSz s))
theorem sz_list (s : ByteArray) : s.size = s.data.toList.length := by rw [ByteArray.size]; simp
theorem bidx_nat {s : ByteArray} {k : Nat} {x : UInt8} (h : s.data.toList[k]? = some x) : bidx s (k : Int) = some (x.toNat : Int) := by
  have hk : k < s.size := by rw [sz_list]; exact (List.getElem?_eq_some_iff.1 h).1
  unfold bidx
  rw [show (decide ((0 : Int) ≤ k) && decide ((k : Int) < s.size)) = true by simp; omega, cond_true]
  rw [Int.toNat_natCast, byteAt, List.getD_eq_getElem?_getD, h]; rfl
theorem bif_and (a b : Bool) : (bif a then some b else some false) = some (a && b) := by cases a <;> rfl
theorem specNm_tr (s : ByteArray) : Tr (fun m => zda m s) (nmOk s) := by
  refine Tr.eq (fun m => by unfold zda; rfl) ?_
  unfold nmOk
  cases decide (s = (⟨#[46, 46, 46]⟩ : ByteArray)) with
  | true => exact Tr.tt rfl Tr.val
  | false =>
  refine Tr.ff rfl ?_
  cases decide (s = (⟨#[95]⟩ : ByteArray)) with
  | true => exact Tr.tt rfl Tr.val
  | false =>
  refine Tr.ff rfl ?_
  have hs := sz_list s
  have key := zaB s.data.toList (fun k zs => Tr (fun m => zbo m s (k : Int)) (nmF k zs && nmSz s)) ?_ ?_ 0 (Nat.zero_le _)
  · simpa using key
  · refine Tr.step (fun m => by rw [zbo, hs, zah, cond_false, ← hs]) (Tr.of fun m => ?_)
    rw [bif_and]; rfl
  · intro k x zs hk hx hd ih
    refine Tr.step (fun m => by rw [zbo, ltN (show k < s.size by omega), cond_true]) ?_
    by_cases h12 : k ≤ 12
    · refine Tr.tt (decide_eq_true (by omega)) (Tr.eq (fun m => by rw [bidx_nat hx, Option.bind_some, zay (by omega), zck]) ?_)
      refine Tr.bind (l1Letter_tr _ _) ?_
      rw [nmF]
      cases letterB (x.toNat : Int) (decide ((k : Int) = 0)) with
      | false => exact Tr.tt rfl Tr.val
      | true => exact Tr.ff rfl (by simpa using ih)
    · refine Tr.ff (decide_eq_false (by omega)) (Tr.of fun m => ?_)
      have : nmSz s = false := by unfold nmSz; rw [decide_eq_false (show ¬ (s.size : Int) ≤ 12 by omega), Bool.and_false]
      rw [bif_and, this, Bool.and_false]
      rw [decide_eq_false (show ¬ (s.size : Int) ≤ 12 by omega), Bool.and_false]
theorem zgR (x lo hi : Int) : Tr (fun m => zco m x lo hi) (decide (lo ≤ x) && decide (x ≤ hi)) :=
  Tr.of (fun m => by unfold zco; rw [bif_and])
theorem star_eq (x : UInt8) : decide (0 ≤ Lib.indexByte [42, 63, 61, 43, 60] ((x.toNat : Int).toNat.toUInt8)) = (decide ((x.toNat : Int) = 42) || (decide ((x.toNat : Int) = 63) || (decide ((x.toNat : Int) = 61) || (decide ((x.toNat : Int) = 43) || decide ((x.toNat : Int) = 60))))) := by
  have hx : ((x.toNat : Int).toNat.toUInt8) = x := by rw [Int.toNat_natCast]; exact UInt8.ofNat_toNat
  rw [hx]
  show decide (0 ≤ Lib.indexByte [42, 63, 61, 43, 60] x) = _
  by_cases h1 : x = 42
  · subst h1; decide
  by_cases h2 : x = 63
  · subst h2; decide
  by_cases h3 : x = 61
  · subst h3; decide
  by_cases h4 : x = 43
  · subst h4; decide
  by_cases h5 : x = 60
  · subst h5; decide
  have ne : ∀ (y : UInt8) (z : Int), (y.toNat : Int) = z → x ≠ y → ¬ ((x.toNat : Int) = z) := fun y z hz hy e => hy (UInt8.toNat_inj.1 (by omega))
  have e : Lib.indexByte [42, 63, 61, 43, 60] x = -1 := by
    simp [Lib.indexByte, Ne.symm h1, Ne.symm h2, Ne.symm h3, Ne.symm h4, Ne.symm h5, beq_eq_false_iff_ne]
  rw [e, decide_eq_false (ne 42 42 rfl h1), decide_eq_false (ne 63 63 rfl h2), decide_eq_false (ne 61 61 rfl h3), decide_eq_false (ne 43 43 rfl h4), decide_eq_false (ne 60 60 rfl h5)]
  rfl
theorem implNm_tr (s : ByteArray) (hs : s.size ≤ 9223372036854775807) : Tr (fun m => zdc m s) (nmOk s) := by
  refine Tr.eq (fun m => by unfold zdc; rfl) ?_
  unfold nmOk
  cases decide (s = (⟨#[46, 46, 46]⟩ : ByteArray)) with
  | true => exact Tr.tt rfl Tr.val
  | false =>
  refine Tr.ff rfl ?_
  cases decide (s = (⟨#[95]⟩ : ByteArray)) with
  | true => exact Tr.tt rfl Tr.val
  | false =>
  refine Tr.ff rfl ?_
  have hsz := sz_list s
  have key := zaB s.data.toList (fun k zs => Tr (fun m => zO m s (k : Int)) (nmF k zs && nmSz s)) ?_ ?_ 0 (Nat.zero_le _)
  · simpa using key
  · refine Tr.step (fun m => by rw [zO, hsz, zah, cond_false, ← hsz]) ?_
    refine Tr.bind (zgR _ _ _) Tr.val
  · intro k x zs hk hx hd ih
    refine Tr.step (fun m => by rw [zO, ltN (show k < s.size by omega), cond_true, bidx_nat hx, Option.bind_some, zay (by omega), zck]) ?_
    simp only [zdH, Option.bind_some, star_eq]
    rw [nmF]
    unfold letterB
    have hp : decide (0 < (k : Int)) = !decide ((k : Int) = 0) := by
      rw [Bool.eq_iff_iff, Bool.not_eq_true', decide_eq_true_iff, decide_eq_false_iff_not]; omega
    rw [hp]
    rw [Bool.and_assoc]
    generalize hR : (nmF (k + 1) zs && nmSz s) = R at ih ⊢
    generalize decide (97 ≤ (x.toNat : Int)) = b1
    generalize decide ((x.toNat : Int) ≤ 122) = b2
    generalize decide ((x.toNat : Int) = 42) = c1
    generalize decide ((x.toNat : Int) = 63) = c2
    generalize decide ((x.toNat : Int) = 61) = c3
    generalize decide ((x.toNat : Int) = 43) = c4
    generalize decide ((x.toNat : Int) = 60) = c5
    generalize decide ((k : Int) = 0) = z
    generalize decide (48 ≤ (x.toNat : Int)) = b3
    generalize decide ((x.toNat : Int) ≤ 57) = b4
    generalize decide ((x.toNat : Int) = 45) = b5
    have hc : ∀ a b c d e w : Bool, (a || (b || (c || (d || (e || w))))) = ((a || (b || (c || (d || e)))) || w) := by decide
    rw [hc c1 c2 c3 c4 c5]
    generalize (c1 || (c2 || (c3 || (c4 || c5)))) = st
    cases b1 <;> cases b2 <;> cases st <;> cases z <;> cases b3 <;> cases b4 <;> cases b5 <;> first | exact Tr.val | exact ih
def gtP : Option Int → Int → Bool
  | none, _ => true
  | some q, x => decide (q < x)
def scF : Option Int → List Int → Bool
  | _, [] => true
  | p, x :: xs => (decide (1 ≤ x) && decide (x ≤ 99)) && (gtP p x && scF (some x) xs)
def prevAt (l : List Int) : Nat → Option Int
  | 0 => none
  | j + 1 => l[j]?
def scOk (l : List Int) : Bool := scF none l && decide ((l.length : Int) ≤ 24)
theorem prev_succ {l : List Int} {k : Nat} {x : Int} (h : l[k]? = some x) : prevAt l (k + 1) = some x := h
theorem pos_succ (k : Nat) : decide ((0 : Int) < ((k + 1 : Nat) : Int)) = true := decide_eq_true (by omega)
theorem implSc_tr (l : List Int) (hl : l.length ≤ 9223372036854775807) : Tr (fun m => zdu m l) (scOk l) := by
  refine Tr.eq (fun m => by unfold zdu; rfl) ?_
  have key := zaB l (fun k zs => Tr (fun m => zbl m l (k : Int)) (scF (prevAt l k) zs && decide ((l.length : Int) ≤ 24))) ?_ ?_ 0 (Nat.zero_le _)
  · simpa [scOk, prevAt] using key
  · exact Tr.step (fun m => by rw [zbl, zah, cond_false]; simp [scF]) Tr.val
  · intro k x zs hk hx hd ih
    rw [prev_succ hx] at ih
    refine Tr.step (fun m => by rw [zbl, ltN hk, cond_true, zJ hx, Option.bind_some, zck]) ?_
    refine Tr.bind (zgR _ _ _) ?_
    rw [scF]
    cases (decide (1 ≤ x) && decide (x ≤ 99)) with
    | false => exact Tr.tt rfl Tr.val
    | true =>
    refine Tr.ff rfl ?_
    cases k with
    | zero => exact Tr.ff (by simp) (by simpa [prevAt, gtP] using ih)
    | succ j =>
      have hj : l[j]? = some l[j] := List.getElem?_eq_getElem (by omega)
      refine Tr.tt (pos_succ j) (Tr.eq (fun m => by rw [zay (by omega), show ((j + 1 : Nat) : Int) - 1 = (j : Int) by omega, zJ hj, Option.bind_some]) ?_)
      rw [show prevAt l (j + 1) = some l[j] from hj, gtP]
      by_cases h : x ≤ l[j]
      · rw [decide_eq_false (show ¬ l[j] < x by omega)]; exact Tr.tt (decide_eq_true h) Tr.val
      · rw [decide_eq_true (show l[j] < x by omega)]; exact Tr.ff (decide_eq_false h) (by simpa using ih)
theorem specSc_tr (l : List Int) (hl : l.length ≤ 9223372036854775807) : Tr (fun m => zds m l) (scOk l) := by
  refine Tr.eq (fun m => by unfold zds; rfl) ?_
  have key := zaB l (fun k zs => Tr (fun m => zbi m l (k : Int)) (scF (prevAt l k) zs && decide ((l.length : Int) ≤ 24))) ?_ ?_ 0 (Nat.zero_le _)
  · simpa [scOk, prevAt] using key
  · exact Tr.step (fun m => by rw [zbi, zah, cond_false]; simp [scF]) Tr.val
  · intro k x zs hk hx hd ih
    rw [prev_succ hx] at ih
    refine Tr.step (fun m => by rw [zbi, ltN hk, cond_true]) ?_
    by_cases h24 : k ≤ 24
    case neg =>
      refine Tr.ff (decide_eq_false (by omega)) (Tr.of fun m => ?_)
      rw [decide_eq_false (show ¬ (l.length : Int) ≤ 24 by omega), Bool.and_false]
    refine Tr.tt (decide_eq_true (by omega)) (Tr.eq (fun m => by rw [zJ hx, Option.bind_some, Option.bind_some]) ?_)
    rw [scF]
    by_cases h1 : x < 1
    · rw [decide_eq_false (show ¬ 1 ≤ x by omega)]; exact Tr.tt (decide_eq_true h1) Tr.val
    rw [decide_eq_true (show 1 ≤ x by omega)]
    refine Tr.ff (decide_eq_false h1) ?_
    by_cases h2 : 99 < x
    · rw [decide_eq_false (show ¬ x ≤ 99 by omega)]; exact Tr.tt (decide_eq_true h2) Tr.val
    rw [decide_eq_true (show x ≤ 99 by omega)]
    refine Tr.ff (decide_eq_false h2) ?_
    cases k with
    | zero => exact Tr.ff (by simp) (Tr.eq (fun m => by rw [zay (by omega), zck]) (by simpa [prevAt, gtP] using ih))
    | succ j =>
      have hj : l[j]? = some l[j] := List.getElem?_eq_getElem (by omega)
      refine Tr.tt (pos_succ j) (Tr.eq (fun m => by rw [Option.bind_some, zay (by omega), show ((j + 1 : Nat) : Int) - 1 = (j : Int) by omega, zJ hj, Option.bind_some]) ?_)
      rw [show prevAt l (j + 1) = some l[j] from hj, gtP]
      by_cases h : x ≤ l[j]
      · rw [decide_eq_false (show ¬ l[j] < x by omega)]; exact Tr.tt (decide_eq_true h) Tr.val
      · rw [decide_eq_true (show l[j] < x by omega)]; exact Tr.ff (decide_eq_false h) (Tr.eq (fun m => by rw [zay (by omega), zck]) (by simpa using ih))
end Go.Abs
end
section
set_option linter.unusedVariables false
set_option linter.unusedSimpArgs false
namespace Go.Abs
mutual
def Form.isOk : Form → Nat → Bool
  | .mk kind name n scopes kids, d => bif decide (d = 0) then false else
    bif decide (kind = 1) then (nmOk name && (decide (n = 0) && (scOk scopes && decide ((kids.length : Int) = 0))))
    else bif decide (kind = 2) then (decide (name = (⟨#[]⟩ : ByteArray)) && ((decide (0 ≤ n) && decide (n ≤ 999)) && (decide ((scopes.length : Int) = 0) && decide ((kids.length : Int) = 0))))
    else (decide (kind = 3) && (decide (name = (⟨#[]⟩ : ByteArray)) && (decide (n = 0) && (decide ((scopes.length : Int) = 0) && Form.isOks kids (d - 1)))))
def Form.isOks : List Form → Nat → Bool
  | [], _ => true
  | f :: fs, d => f.isOk d && Form.isOks fs d
end
mutual
def Form.cnt : Form → Nat
  | .mk _ _ _ _ kids => 1 + Form.cnts kids
def Form.cnts : List Form → Nat
  | [] => 0
  | f :: fs => f.cnt + Form.cnts fs
end
theorem Form.isOks_eq (d : Nat) : ∀ l : List Form, Form.isOks l d = alls (fun x => x.isOk d) l
  | [] => rfl
  | f :: fs => by rw [Form.isOks, alls, Form.isOks_eq d fs]
theorem Form.isOk_eq (f : Form) (d : Nat) : f.isOk d = bif decide (d = 0) then false else
    bif decide (f.kind = 1) then (nmOk f.name && (decide (f.n = 0) && (scOk f.scopes && decide ((f.kids.length : Int) = 0))))
    else bif decide (f.kind = 2) then (decide (f.name = (⟨#[]⟩ : ByteArray)) && ((decide (0 ≤ f.n) && decide (f.n ≤ 999)) && (decide ((f.scopes.length : Int) = 0) && decide ((f.kids.length : Int) = 0))))
    else (decide (f.kind = 3) && (decide (f.name = (⟨#[]⟩ : ByteArray)) && (decide (f.n = 0) && (decide ((f.scopes.length : Int) = 0) && alls (fun x => x.isOk (d - 1)) f.kids)))) := by
  obtain ⟨a, b, c, e, g⟩ := f; rw [Form.isOk, Form.isOks_eq]; rfl
theorem Form.cnt_eq (f : Form) : f.cnt = 1 + Form.cnts f.kids := by obtain ⟨a, b, c, e, g⟩ := f; rw [Form.cnt]; rfl
mutual
theorem Form.cnt_w : ∀ f : Form, f.cnt ≤ f.w
  | .mk a b c d e => by have := Form.cnts_ws e; rw [Form.cnt, Form.w]; omega
theorem Form.cnts_ws : ∀ l : List Form, Form.cnts l ≤ Form.ws l
  | [] => by simp [Form.cnts]
  | f :: fs => by have := Form.cnt_w f; have := Form.cnts_ws fs; rw [Form.cnts, Form.ws]; omega
end
def Form.valid (f : Form) : Bool := f.isOk 40 && decide (f.cnt ≤ 400)
theorem l1Is_n : ∀ (n : Nat) (f : Form) (d : Nat), f.w ≤ n → f.fit → d ≤ 40 → Tr (fun m => zer m f (d : Int)) (f.isOk d) := by
  intro n
  induction n with
  | zero => intro a d h; have := a.w_pos; omega
  | succ n ih =>
    intro f d h hf hd
    obtain ⟨f1, f2, f3, f4⟩ := hf.parts
    have hw := f.w_kids
    rw [Form.isOk_eq]
    refine Tr.step (fun m => by rw [zer]) ?_
    cases hd0 : decide (d = 0) with
    | true => exact Tr.tt (decide_eq_true (by simpa using hd0)) Tr.val
    | false =>
    have hd1 : d ≠ 0 := by simpa using hd0
    refine Tr.ff (decide_eq_false (by omega)) ?_
    rw [cond_false]
    cases decide (f.kind = 1) with
    | true =>
      refine Tr.tt rfl (Tr.bind (specNm_tr _) ?_)
      rw [cond_true]
      cases nmOk f.name with
      | false => exact Tr.ff rfl Tr.val
      | true =>
      refine Tr.tt rfl ?_
      cases decide (f.n = 0) with
      | false => exact Tr.ff rfl Tr.val
      | true =>
      refine Tr.tt rfl (Tr.bind (specSc_tr _ f2) ?_)
      cases scOk f.scopes with
      | false => exact Tr.ff rfl Tr.val
      | true => exact Tr.tt rfl Tr.val
    | false =>
    refine Tr.ff rfl ?_
    rw [cond_false]
    cases decide (f.kind = 2) with
    | true =>
      refine Tr.tt rfl (Tr.of fun m => ?_)
      rw [cond_true]
      cases decide (f.name = (⟨#[]⟩ : ByteArray)) <;> cases decide (0 ≤ f.n) <;> cases decide (f.n ≤ 999) <;> cases decide ((f.scopes.length : Int) = 0) <;> rfl
    | false =>
    refine Tr.ff rfl ?_
    rw [cond_false]
    by_cases h3 : f.kind = 3
    case neg => rw [decide_eq_false h3]; exact Tr.tt (by simpa using h3) Tr.val
    rw [decide_eq_true h3]
    refine Tr.ff (by simpa using h3) ?_
    by_cases h4 : f.name = (⟨#[]⟩ : ByteArray)
    case neg => rw [decide_eq_false h4]; exact Tr.tt (by simpa using h4) Tr.val
    rw [decide_eq_true h4]
    refine Tr.ff (by simpa using h4) ?_
    by_cases h5 : f.n = 0
    case neg => rw [decide_eq_false h5]; exact Tr.tt (by simpa using h5) Tr.val
    rw [decide_eq_true h5]
    refine Tr.ff (by simpa using h5) ?_
    by_cases h6 : (f.scopes.length : Int) = 0
    case neg => rw [decide_eq_false h6]; exact Tr.tt (by rw [decide_eq_true_eq]; exact h6) Tr.val
    rw [decide_eq_true h6]
    refine Tr.ff (by rw [decide_eq_false_iff_not]; exact fun h => h h6) ?_
    have e : ((d : Int) - 1) = ((d - 1 : Nat) : Int) := by omega
    have := loop_all (xs := f.kids) (c := true) (D := fun x => x.isOk (d - 1)) (L := fun m k => zdk m f (d : Int) k) (E := fun m x => zer m x (w64 ((d : Int) - 1))) (fun m k => by rw [zdk]) (fun x hx => by
      rw [zay (by omega), e]; exact ih x (d - 1) (by have := Form.ws_mem hx; omega) (Form.fits_mem f4 hx) (by omega))
    simpa using this
theorem l1Count_n : ∀ (n : Nat) (f : Form), f.w ≤ n → f.w ≤ 2 ^ 36 → Tr (fun m => zdl m f) (f.cnt : Int) := by
  intro n
  induction n with
  | zero => intro a h; have := a.w_pos; omega
  | succ n ih =>
    intro f h hb
    have hw := f.w_kids
    have hc := Form.cnts_ws f.kids
    refine Tr.step (fun m => by rw [zdl]) ?_
    have key := zaB f.kids (fun k zs => ∀ g : Nat, g + Form.ws zs ≤ 2 ^ 37 → Tr (fun m => zbN m f (g : Int) (k : Int)) ((g + Form.cnts zs : Nat) : Int)) ?_ ?_ 0 (Nat.zero_le _) 1 (by simp; omega)
    · rw [Form.cnt_eq]; simpa using key
    · intro g hg
      exact Tr.step (fun m => by rw [zbN, zah, cond_false]; simp [Form.cnts]) Tr.val
    · intro k x zs hk hx hd ihk g hg
      have hm := List.mem_of_getElem? hx
      have hxw := Form.ws_mem hm
      have hcx := Form.cnt_w x
      rw [Form.ws] at hg
      refine Tr.step (fun m => by rw [zbN, ltN hk, cond_true, zJ hx, Option.bind_some, zck]) ?_
      refine Tr.bind (ih x (by omega) (by omega)) ?_
      refine Tr.eq (fun m => by rw [zay (by omega), show (g : Int) + (x.cnt : Int) = ((g + x.cnt : Nat) : Int) by omega]) ?_
      rw [Form.cnts, ← Nat.add_assoc]
      exact ihk _ (by omega)
theorem zga (f : Form) (hf : f.fit) (hb : f.w ≤ 2 ^ 36) : Tr (fun m => zb4 m f) f.valid := by
  refine Tr.eq (fun m => by unfold zb4; rfl) (Tr.bind (l1Is_n _ f 40 (Nat.le_refl _) hf (by omega)) ?_)
  unfold Form.valid
  cases f.isOk 40 with
  | false => exact Tr.ff rfl Tr.val
  | true =>
    refine Tr.tt rfl (Tr.bind (l1Count_n _ f (Nat.le_refl _) hb) (Tr.of fun m => ?_))
    rw [Bool.true_and]; congr 1
    rw [Bool.eq_iff_iff, decide_eq_true_iff, decide_eq_true_iff]; omega
theorem formOk_n : ∀ (n : Nat) (f : Form) (d : Nat) (g : Int), f.w ≤ n → f.fit → 1 ≤ d → d ≤ 41 → 0 ≤ g → g ≤ 400 → TQ (fun m => zdN m f (d : Int) g) (fun r => r.1 = (f.isOk (41 - d) && decide ((f.cnt : Int) ≤ g)) ∧ (r.1 = true → r.2 = g - f.cnt)) := by
  intro n
  induction n with
  | zero => intro a d g h; have := a.w_pos; omega
  | succ n ih =>
    intro f d g h hf hd hd' hg hg'
    obtain ⟨f1, f2, f3, f4⟩ := hf.parts
    have hw := f.w_kids
    have hcn := f.cnt_eq
    rw [Form.isOk_eq]
    refine TQ.step (fun m => by rw [zdN, zay (by omega)]) ?_
    by_cases hg0 : g - 1 < 0
    · refine TQ.eq (fun m => by rw [decide_eq_true hg0, cond_true]) (TQ.val ⟨?_, fun h => by cases h⟩)
      rw [decide_eq_false (show ¬ (f.cnt : Int) ≤ g by omega), Bool.and_false]
    refine TQ.eq (fun m => by rw [decide_eq_false hg0, cond_false]) ?_
    by_cases hd0 : 40 < (d : Int)
    · refine TQ.eq (fun m => by rw [decide_eq_true hd0, cond_true]) (TQ.val ⟨?_, fun h => by cases h⟩)
      rw [decide_eq_true (show 41 - d = 0 by omega), cond_true, Bool.false_and]
    refine TQ.eq (fun m => by rw [decide_eq_false hd0, cond_false]) ?_
    rw [decide_eq_false (show ¬ 41 - d = 0 by omega), cond_false]
    have leaf : ∀ (b : Bool), ((b && decide ((f.kids.length : Int) = 0)) = true → True) := fun _ _ => trivial
    have cnt1 : (f.kids.length : Int) = 0 → (f.cnt : Int) = 1 := fun h => by
      have : f.kids = [] := List.eq_nil_of_length_eq_zero (by omega)
      rw [hcn, this, Form.cnts]; rfl
    have fin : TQ (fun _ => some ((decide ((f.kids.length : Int) = 0)), g - 1)) (fun r => r.1 = (decide ((f.kids.length : Int) = 0) && decide ((f.cnt : Int) ≤ g)) ∧ (r.1 = true → r.2 = g - f.cnt)) := by
      refine TQ.val ⟨?_, fun h => by have := cnt1 (by simpa using h); omega⟩
      by_cases hk : (f.kids.length : Int) = 0
      · have := cnt1 hk
        rw [decide_eq_true hk, decide_eq_true (show (f.cnt : Int) ≤ g by omega)]; rfl
      · rw [decide_eq_false hk]; rfl
    have no : TQ (fun _ => some (false, g - 1)) (fun r => r.1 = (false && decide ((f.cnt : Int) ≤ g)) ∧ (r.1 = true → r.2 = g - f.cnt)) := TQ.val ⟨rfl, fun h => by cases h⟩
    cases decide (f.kind = 1) with
    | true =>
      refine TQ.eq (fun m => by rw [cond_true]) (TQ.ev (implNm_tr _ f1) ?_)
      rw [cond_true]
      cases nmOk f.name with
      | false => exact no
      | true =>
      refine TQ.eq (fun m => by rw [cond_true]) ?_
      cases decide (f.n = 0) with
      | false => exact no
      | true =>
      refine TQ.eq (fun m => by rw [cond_true]) (TQ.ev (implSc_tr _ f2) ?_)
      cases scOk f.scopes with
      | false => exact no
      | true => exact fin
    | false =>
    refine TQ.eq (fun m => by rw [cond_false]) ?_
    rw [cond_false]
    cases decide (f.kind = 2) with
    | true =>
      refine TQ.eq (fun m => by rw [cond_true]) ?_
      rw [cond_true]
      cases decide (f.name = (⟨#[]⟩ : ByteArray)) with
      | false => exact no
      | true =>
      refine TQ.eq (fun m => by rw [cond_true]) (TQ.ev (zgR _ _ _) ?_)
      cases (decide (0 ≤ f.n) && decide (f.n ≤ 999)) with
      | false => exact no
      | true =>
      refine TQ.eq (fun m => by rw [cond_true]) ?_
      cases decide ((f.scopes.length : Int) = 0) with
      | false => exact no
      | true => exact fin
    | false =>
    refine TQ.eq (fun m => by rw [cond_false]) ?_
    rw [cond_false]
    cases decide (f.kind = 3) with
    | false => exact no
    | true =>
    refine TQ.eq (fun m => by rw [cond_true]) ?_
    by_cases h4 : f.name = (⟨#[]⟩ : ByteArray)
    case neg => rw [decide_eq_false h4]; exact TQ.eq (fun m => by rw [decide_eq_true h4, cond_true]) no
    rw [decide_eq_true h4]
    refine TQ.eq (fun m => by rw [decide_eq_false (fun h => h h4), cond_false]) ?_
    by_cases h5 : f.n = 0
    case neg => rw [decide_eq_false h5]; exact TQ.eq (fun m => by rw [decide_eq_true h5, cond_true]) no
    rw [decide_eq_true h5]
    refine TQ.eq (fun m => by rw [decide_eq_false (fun h => h h5), cond_false]) ?_
    by_cases h6 : (f.scopes.length : Int) = 0
    case neg => rw [decide_eq_false h6]; exact TQ.eq (fun m => by rw [decide_eq_true (show 0 < (f.scopes.length : Int) by omega), cond_true]) no
    rw [decide_eq_true h6]
    refine TQ.eq (fun m => by rw [decide_eq_false (show ¬ 0 < (f.scopes.length : Int) by omega), cond_false]) ?_
    have key := zaB f.kids (fun k zs => ∀ g : Int, 0 ≤ g → g ≤ 400 → TQ (fun m => zb6 m f (d : Int) (k : Int) g) (fun r => r.1 = (alls (fun x => x.isOk (41 - d - 1)) zs && decide ((Form.cnts zs : Int) ≤ g)) ∧ (r.1 = true → r.2 = g - Form.cnts zs))) ?_ ?_ 0 (Nat.zero_le _) (g - 1) (by omega) (by omega)
    · refine TQ.mono (by simpa using key) (fun r hr => ⟨?_, fun h => by have := hr.2 h; omega⟩)
      rw [hr.1]
      simp only [Bool.true_and]
      congr 1
      rw [Bool.eq_iff_iff, decide_eq_true_iff, decide_eq_true_iff]; omega
    · intro g hg _
      exact TQ.step (fun m => by rw [zb6, zah, cond_false]) (TQ.val ⟨by simp [alls, Form.cnts, hg], fun _ => by simp [Form.cnts]⟩)
    · intro k x zs hk hx hdr ihk g hg hg'
      have hm := List.mem_of_getElem? hx
      refine TQ.step (fun m => by rw [zb6, ltN hk, cond_true, zJ hx, Option.bind_some, zck, zay (by omega), zck]) ?_
      refine TQ.bind (ih x (d + 1) g (by have := Form.ws_mem hm; omega) (Form.fits_mem f4 hm) (by omega) (by omega) hg hg') (fun r hr => ?_)
      obtain ⟨h1, h2⟩ := hr
      have e : 41 - (d + 1) = 41 - d - 1 := by omega
      rw [e] at h1
      refine TQ.cond (fun hb => ?_) (fun hb => ?_)
      · refine TQ.val ⟨?_, fun h => by cases h⟩
        replace hb : r.1 = false := by simpa using hb
        rw [hb] at h1
        rw [alls, Form.cnts]
        cases hx : x.isOk (41 - d - 1) with
        | false => rfl
        | true =>
          rw [hx, Bool.true_and] at h1
          have : ¬ (x.cnt : Int) ≤ g := of_decide_eq_false h1.symm
          rw [decide_eq_false (show ¬ ((x.cnt + Form.cnts zs : Nat) : Int) ≤ g by omega), Bool.and_false]
      · replace hb : r.1 = true := by simpa using hb
        have h3 := h2 hb
        rw [hb] at h1
        have h4 := (Bool.and_eq_true _ _ ▸ h1.symm : _ ∧ _)
        have h5 : (x.cnt : Int) ≤ g := of_decide_eq_true h4.2
        refine TQ.mono (ihk r.2 (by omega) (by omega)) (fun q hq => ⟨?_, fun h => by have := hq.2 h; rw [Form.cnts]; omega⟩)
        rw [hq.1, alls, Form.cnts, h4.1, Bool.true_and]
        congr 1
        rw [Bool.eq_iff_iff, decide_eq_true_iff, decide_eq_true_iff]; omega
theorem zdd (f : Form) (hf : f.fit) : Tr (fun m => zbt m f) f.valid := by
  obtain ⟨r, h1, h2, _⟩ := formOk_n _ f 1 400 (Nat.le_refl _) hf (by omega) (by omega) (by omega) (by omega)
  refine Tr.eq (fun m => by unfold zbt; rfl) (Tr.bind h1 (Tr.of fun m => ?_))
  rw [h2]; unfold Form.valid; congr 2
  rw [Bool.eq_iff_iff, decide_eq_true_iff, decide_eq_true_iff]; omega
end Go.Abs
end
section
set_option linter.unusedVariables false
set_option linter.unusedSimpArgs false
namespace Go.Abs
abbrev dotsN : ByteArray := (⟨#[46, 46, 46]⟩ : ByteArray)
abbrev zeR : ByteArray := (⟨#[95]⟩ : ByteArray)
abbrev zfU : Form := Form.mk 0 (⟨#[]⟩ : ByteArray) 0 ([] : List Int) ([] : List Form)
def isNm (f : Form) : Bool := decide (f.kind = 1) && f.valid
theorem zfE (f : Form) (hf : f.fit) : Tr (fun m => zcL m f) (isNm f) := by
  refine Tr.eq (fun m => by unfold zcL; rfl) ?_
  unfold isNm
  cases decide (f.kind = 1) with
  | false => exact Tr.ff rfl Tr.val
  | true => exact Tr.tt rfl (Tr.bind (zdd f hf) Tr.val)
theorem l3Is_tr (f : Form) (hf : f.fit) (hb : f.w ≤ 2 ^ 36) : Tr (fun m => zgs m f) (isNm f) := by
  refine Tr.eq (fun m => by unfold zgs; rfl) ?_
  unfold isNm
  cases decide (f.kind = 1) with
  | false => exact Tr.ff rfl Tr.val
  | true => exact Tr.tt rfl (Tr.bind (zga f hf hb) Tr.val)
mutual
noncomputable def Hit.isOk : Hit → Bool
  | .mk name depth one many => isNm name && (!decide (name.name = dotsN) && (!decide (name.name = zeR) && ((decide (0 ≤ depth) && decide (depth ≤ 3)) &&
      bif decide (depth = 0) then (one.valid && decide ((many.length : Int) = 0)) else (same one zfU && (decide ((many.length : Int) ≤ 400) && Hit.isOks many name (depth - 1))))))
noncomputable def Hit.isOks : List Hit → Form → Int → Bool
  | [], _, _ => true
  | x :: xs, nm, d => (same x.name nm && (decide (x.depth = d) && x.isOk)) && Hit.isOks xs nm d
end
theorem Hit.isOks_eq (nm : Form) (d : Int) : ∀ l : List Hit, Hit.isOks l nm d = alls (fun x => same x.name nm && (decide (x.depth = d) && x.isOk)) l
  | [] => by rw [Hit.isOks, alls]
  | x :: xs => by rw [Hit.isOks, alls, Hit.isOks_eq nm d xs]
theorem Hit.isOk_eq (h : Hit) : h.isOk = (isNm h.name && (!decide (h.name.name = dotsN) && (!decide (h.name.name = zeR) && ((decide (0 ≤ h.depth) && decide (h.depth ≤ 3)) &&
      bif decide (h.depth = 0) then (h.one.valid && decide ((h.many.length : Int) = 0)) else (same h.one zfU && (decide ((h.many.length : Int) ≤ 400) && alls (fun x => same x.name h.name && (decide (x.depth = h.depth - 1) && x.isOk)) h.many)))))) := by
  obtain ⟨a, b, c, d⟩ := h; rw [Hit.isOk, Hit.isOks_eq]; rfl
theorem fnd_none {α : Type} {D : α → Bool} {l : List α} {k : Nat} : decide (0 ≤ fnd D l k) = !alls (fun x => !D x) l := by
  rw [Bool.eq_iff_iff, decide_eq_true_iff, fnd_ge, Bool.not_eq_true', ← Bool.not_eq_true, zfc]
  constructor
  · rintro ⟨x, hx, h⟩ hh
    have := hh x hx
    rw [h] at this; cases this
  · intro h
    refine Classical.byContradiction fun hn => h fun x hx => ?_
    cases hd : D x with
    | false => rfl
    | true => exact absurd ⟨x, hx, hd⟩ hn
theorem hitOk_n : ∀ (n : Nat) (h : Hit), h.w ≤ n → h.fit → Tr (fun m => zdG m h) h.isOk := by
  intro n
  induction n with
  | zero => intro a h; have := a.w_parts; omega
  | succ n ih =>
    intro h hn hf
    obtain ⟨f1, f2, f3, f4⟩ := hf.parts
    have hw := h.w_parts
    rw [Hit.isOk_eq]
    refine Tr.step (fun m => by rw [zdG]) (Tr.bind (zfE _ f1) ?_)
    cases isNm h.name with
    | false => exact Tr.tt rfl Tr.val
    | true =>
    refine Tr.ff rfl ?_
    cases decide (h.name.name = dotsN) with
    | true => exact Tr.tt rfl Tr.val
    | false =>
    refine Tr.ff rfl ?_
    cases decide (h.name.name = zeR) with
    | true => exact Tr.tt rfl Tr.val
    | false =>
    refine Tr.ff rfl (Tr.bind (zgR _ _ _) ?_)
    cases hr : (decide (0 ≤ h.depth) && decide (h.depth ≤ 3)) with
    | false => exact Tr.tt rfl Tr.val
    | true =>
    obtain ⟨hr1, hr2⟩ : 0 ≤ h.depth ∧ h.depth ≤ 3 := by simpa using hr
    refine Tr.ff rfl ?_
    cases decide (h.depth = 0) with
    | true =>
      refine Tr.tt rfl (Tr.bind (zdd _ f2) ?_)
      cases h.one.valid with
      | false => exact Tr.ff rfl Tr.val
      | true => exact Tr.tt rfl Tr.val
    | false =>
    refine Tr.ff rfl (Tr.bind (zc3 _ _) ?_)
    simp only [cond_false, Bool.not_false, Bool.true_and]
    cases same h.one zfU with
    | false => exact Tr.ff rfl Tr.val
    | true =>
    refine Tr.tt rfl ?_
    cases decide ((h.many.length : Int) ≤ 400) with
    | false => exact Tr.ff rfl Tr.val
    | true =>
    refine Tr.tt rfl ?_
    have bad : ∀ x ∈ h.many, Tr (fun m => zdn m x h) (!(same x.name h.name && (decide (x.depth = h.depth - 1) && x.isOk))) := by
      intro x hx
      refine Tr.step (fun m => by rw [zdn]) (Tr.bind (zc3 _ _) ?_)
      cases same x.name h.name with
      | false => exact Tr.tt rfl Tr.val
      | true =>
      refine Tr.ff rfl (Tr.eq (fun m => by rw [zay (by omega)]) ?_)
      by_cases hd : x.depth = h.depth - 1
      · refine Tr.ff (decide_eq_false (fun h => h hd)) (Tr.bind (ih x (by have := Hit.ws_mem hx; omega) (Hit.fits_mem f4 hx)) ?_)
        rw [decide_eq_true hd]; exact Tr.val
      · rw [decide_eq_false hd]; exact Tr.tt (decide_eq_true hd) Tr.val
    refine Tr.bind (v := decide (0 ≤ fnd (fun x => !(same x.name h.name && (decide (x.depth = h.depth - 1) && x.isOk))) h.many 0)) ?_ (Tr.of fun m => ?_)
    · refine Tr.step (fun m => by rw [zaO]) (Tr.bind ?_ Tr.val)
      refine Tr.step (fun m => by rw [za2]) ?_
      exact zf8 (xs := h.many) (L := fun m k => zaa m h.many h k) (E := fun m x => zdn m x h) (fun m k => by rw [zaa]) bad
    · rw [fnd_none, Bool.not_not]; simp only [Bool.not_not]; rfl
theorem hitOk_tr (h : Hit) (hf : h.fit) : Tr (fun m => zdG m h) h.isOk := hitOk_n _ h (Nat.le_refl _) hf
noncomputable def hvF : List Hit → List Hit → Bool
  | _, [] => true
  | ps, x :: xs => x.isOk && (alls (fun y => !same y.name x.name) ps && hvF (ps ++ [x]) xs)
noncomputable def hvOk (l : List Hit) : Bool := hvF [] l && decide ((l.length : Int) ≤ 20)
theorem zfP {α : Type} {l : List α} {k : Nat} {x : α} (h : l[k]? = some x) : l.take (k + 1) = l.take k ++ [x] := by
  rw [List.take_add_one, h]; rfl
theorem sub_take {α : Type} {l : List α} {k : Nat} (h : k ≤ l.length) : sub l 0 (k : Int) = some (l.take k) := by
  unfold sub
  rw [show (decide ((0 : Int) ≤ 0) && decide ((0 : Int) ≤ k) && decide ((k : Int) ≤ l.length)) = true by simp; omega, cond_true]
  simp
end Go.Abs
end
section
set_option linter.unusedVariables false
set_option linter.unusedSimpArgs false
namespace Go.Abs
def zF (f : Form) : Bool := decide (f.kind = 1) && decide (f.name = dotsN)
theorem named_tr (f : Form) (s : ByteArray) : Tr (fun m => zdf m f s) (decide (f.kind = 1) && decide (f.name = s)) :=
  Tr.of (fun m => by unfold zdf; rw [bif_and])
theorem zg1 (f : Form) : Tr (fun m => zcm m f) (zF f) :=
  Tr.of (fun m => by unfold zcm zF; rw [bif_and])
noncomputable def depF : List (Form × Int) → Form → Int
  | [], _ => -1
  | p :: ps, f => bif same p.1 f then p.2 else depF ps f
noncomputable def dep (l : List (Form × Int)) (f : Form) : Int := bif decide (f.kind ≠ 1) then -1 else depF l f
def nd (l : List Hit) : List (Form × Int) := l.map fun h => (h.name, h.depth)
def zb7 : List Form → Bool
  | [] => false
  | y :: _ => zF y
mutual
def Form.dotsOk (one : Bool) : Form → Bool
  | .mk _ _ _ _ kids => Form.kD one true false kids
def Form.kD (one : Bool) : Bool → Bool → List Form → Bool
  | _, _, [] => true
  | pd, sn, x :: xs => (bif zF x then (!pd && !(one && sn)) else x.dotsOk one) && Form.kD one (zF x) (sn || zF x) xs
end
theorem Form.dotsOk_eq (one : Bool) (f : Form) : f.dotsOk one = Form.kD one true false f.kids := by obtain ⟨a, b, c, d, e⟩ := f; rw [Form.dotsOk]; rfl
def pdAt (l : List Form) : Nat → Bool
  | 0 => true
  | j + 1 => match l[j]? with
    | some y => zF y
    | none => true
theorem pd_succ {l : List Form} {k : Nat} {x : Form} (h : l[k]? = some x) : pdAt l (k + 1) = zF x := by rw [pdAt, h]
theorem dotsOk_n (one : Bool) : ∀ (n : Nat) (f : Form), f.w ≤ n → f.w ≤ 2 ^ 36 → Tr (fun m => zdh m f one) (f.dotsOk one) := by
  intro n
  induction n with
  | zero => intro a h; have := a.w_pos; omega
  | succ n ih =>
    intro f h hb
    have hw := f.w_kids
    have hlen := Form.ws_len f.kids
    rw [Form.dotsOk_eq]
    refine Tr.step (fun m => by rw [zdh]) ?_
    have key := zaB f.kids (fun k zs => Tr (fun m => zbs m f one (k : Int)) (Form.kD one (pdAt f.kids k) (!alls (fun y => !zF y) (f.kids.take k)) zs)) ?_ ?_ 0 (Nat.zero_le _)
    · simpa [pdAt, alls] using key
    · exact Tr.step (fun m => by rw [zbs, zah, cond_false, Form.kD]) Tr.val
    · intro k x zs hk hx hd ihk
      have hm := List.mem_of_getElem? hx
      have hxw := Form.ws_mem hm
      rw [pd_succ hx, zfP hx] at ihk
      have ea : ∀ l : List Form, (!alls (fun y => !zF y) (l ++ [x])) = ((!alls (fun y => !zF y) l) || zF x) := by
        intro l
        induction l with
        | nil => simp [alls]
        | cons y l ihl => rw [List.cons_append, alls, alls, Bool.not_and, ihl, Bool.not_and, Bool.or_assoc]
      rw [ea] at ihk
      refine Tr.step (fun m => by rw [zbs, ltN hk, cond_true, zJ hx, Option.bind_some, zck]) (Tr.bind (named_tr _ _) ?_)
      rw [show (decide (x.kind = 1) && decide (x.name = (⟨#[46, 46, 46]⟩ : ByteArray))) = zF x from rfl, Form.kD]
      cases hxd : zF x with
      | false =>
        rw [hxd] at ihk
        refine Tr.ff rfl (Tr.bind (ih x (by omega) (by omega)) ?_)
        rw [cond_false]
        cases x.dotsOk one with
        | false => exact Tr.tt rfl Tr.val
        | true => exact Tr.ff rfl (by simpa using ihk)
      | true =>
        rw [hxd] at ihk
        refine Tr.tt rfl ?_
        rw [cond_true]
        cases k with
        | zero => exact Tr.tt rfl Tr.val
        | succ j =>
          have hj : f.kids[j]? = some f.kids[j] := List.getElem?_eq_getElem (by omega)
          refine Tr.ff (decide_eq_false (by omega)) (Tr.eq (fun m => by rw [zay (by omega), show ((j + 1 : Nat) : Int) - 1 = (j : Int) by omega, zJ hj, Option.bind_some]) (Tr.bind (named_tr _ _) ?_))
          rw [show (decide (f.kids[j].kind = 1) && decide (f.kids[j].name = (⟨#[46, 46, 46]⟩ : ByteArray))) = zF f.kids[j] from rfl, pd_succ hj]
          cases zF f.kids[j] with
          | true => exact Tr.tt rfl Tr.val
          | false =>
          refine Tr.ff rfl ?_
          cases one with
          | false => exact Tr.ff rfl (by simpa using ihk)
          | true =>
            refine Tr.tt rfl (Tr.eq (fun m => by rw [sub_take (by omega), Option.bind_some]) ?_)
            refine Tr.bind (v := fnd zF (f.kids.take (j + 1)) 0) ?_ ?_
            · refine Tr.eq (fun m => by unfold zdO; rfl) (Tr.bind ?_ Tr.val)
              refine Tr.eq (fun m => by unfold zaR; rfl) ?_
              exact zf8 (L := fun m i => zE m (f.kids.take (j + 1)) i) (E := fun m y => zc0 m y) (fun m i => by rw [zE]) (fun y _ => Tr.eq (fun m => by unfold zc0; rfl) (Tr.bind (named_tr _ _) Tr.val))
            · have e := fnd_none (D := zF) (l := f.kids.take (j + 1)) (k := 0)
              cases ha : alls (fun y => !zF y) (f.kids.take (j + 1)) with
              | false => rw [ha] at e; exact Tr.tt e Tr.val
              | true => rw [ha] at e ihk; exact Tr.ff e (by simpa using ihk)
theorem dotsOk_tr (one : Bool) (f : Form) (hb : f.w ≤ 2 ^ 36) : Tr (fun m => zdh m f one) (f.dotsOk one) := dotsOk_n one _ f (Nat.le_refl _) hb
end Go.Abs
end
section
set_option linter.unusedVariables false
set_option linter.unusedSimpArgs false
namespace Go.Abs
mutual
noncomputable def Form.anyD (l : List (Form × Int)) (v : Int) : Form → Bool
  | .mk k nm n sc kids => decide (v < dep l (.mk k nm n sc kids)) || Form.anyDs l v kids
noncomputable def Form.anyDs (l : List (Form × Int)) (v : Int) : List Form → Bool
  | [] => false
  | x :: xs => x.anyD l v || Form.anyDs l v xs
end
def lessI (k : Nat) (d : Int) : Int := bif decide (0 < d) then (bif decide ((k : Int) < d) then d - k else 0) else d
theorem lessI_succ (k : Nat) (d : Int) : lessI (k + 1) d = bif decide (0 < lessI k d) then lessI k d - 1 else lessI k d := by
  unfold lessI
  by_cases h : 0 < d
  · rw [decide_eq_true h, cond_true, cond_true]
    by_cases h2 : (k : Int) < d
    · rw [decide_eq_true h2, cond_true, decide_eq_true (show 0 < d - (k : Int) by omega), cond_true]
      by_cases h3 : ((k + 1 : Nat) : Int) < d
      · rw [decide_eq_true h3, cond_true]; omega
      · rw [decide_eq_false h3, cond_false]; omega
    · rw [decide_eq_false h2, cond_false, decide_eq_false (show ¬ ((k + 1 : Nat) : Int) < d by omega), cond_false]; rfl
  · rw [decide_eq_false h, cond_false, cond_false, decide_eq_false h, cond_false]
theorem lessI_zero (d : Int) : lessI 0 d = d := by
  unfold lessI
  by_cases h : 0 < d
  · rw [decide_eq_true h, cond_true, decide_eq_true (show ((0 : Nat) : Int) < d by omega), cond_true]; omega
  · rw [decide_eq_false h, cond_false]
def rowOf (h : Hit) : Hit := Hit.mk h.name (bif decide (0 < h.depth) then h.depth - 1 else h.depth) h.one ([] : List Hit)
theorem depF_row (f : Form) : ∀ l : List Hit, depF (nd (l.map rowOf)) f = bif decide (0 < depF (nd l) f) then depF (nd l) f - 1 else depF (nd l) f
  | [] => rfl
  | h :: hs => by
    have ih := depF_row f hs
    simp only [nd, List.map_cons, List.map_map] at ih ⊢
    rw [depF, depF]
    show (bif same h.name f then _ else _) = _
    simp only
    cases same h.name f with
    | true => rfl
    | false => simp only [cond_false]; exact ih
theorem dep_row (f : Form) (l : List Hit) : dep (nd (l.map rowOf)) f = bif decide (0 < dep (nd l) f) then dep (nd l) f - 1 else dep (nd l) f := by
  unfold dep
  cases decide (f.kind ≠ 1) with
  | true => rfl
  | false => simp only [cond_false]; exact depF_row f l
structure RowK (k : Nat) (l' l : List Hit) : Prop where
  dep : ∀ f, Abs.dep (nd l') f = lessI k (Abs.dep (nd l) f)
  len : l'.length = l.length
  fit : ∀ h ∈ l', -9223372036854775808 ≤ h.depth ∧ h.depth ≤ 9223372036854775807
theorem RowK.zero {l : List Hit} (h : ∀ h ∈ l, -9223372036854775808 ≤ h.depth ∧ h.depth ≤ 9223372036854775807) : RowK 0 l l := ⟨fun f => (lessI_zero _).symm, rfl, h⟩
theorem RowK.succ {k : Nat} {l' l : List Hit} (h : RowK k l' l) : RowK (k + 1) (l'.map rowOf) l := by
  refine ⟨fun f => by rw [dep_row, h.dep f, lessI_succ], by rw [List.length_map, h.len], fun y hy => ?_⟩
  obtain ⟨x, hx, rfl⟩ := List.mem_map.1 hy
  obtain ⟨h1, h2⟩ := h.fit x hx
  show -9223372036854775808 ≤ (bif decide (0 < x.depth) then x.depth - 1 else x.depth) ∧ (bif decide (0 < x.depth) then x.depth - 1 else x.depth) ≤ 9223372036854775807
  by_cases h0 : 0 < x.depth
  · rw [decide_eq_true h0, cond_true]; omega
  · rw [decide_eq_false h0, cond_false]; exact ⟨h1, h2⟩
mutual
noncomputable def Form.rws (l : List (Form × Int)) : Nat → Form → Bool
  | v, .mk k nm n sc kids => !decide ((v : Int) < dep l (.mk k nm n sc kids)) && Form.kR l v kids
noncomputable def Form.kR (l : List (Form × Int)) : Nat → List Form → Bool
  | _, [] => true
  | v, x :: xs => (bif zF x then true else bif zb7 xs then (x.anyD l v && x.rws l (v + 1)) else x.rws l v) && Form.kR l v xs
end
theorem Form.rws_eq (l : List (Form × Int)) (v : Nat) (f : Form) : f.rws l v = (!decide ((v : Int) < dep l f) && Form.kR l v f.kids) := by obtain ⟨a, b, c, d, e⟩ := f; rw [Form.rws]; rfl
theorem next_get {l : List Form} {k : Nat} {x : Form} {zs : List Form} (hd : l.drop k = x :: zs) : (zs = [] ∧ l.length = k + 1) ∨ (∃ y ys, zs = y :: ys ∧ l[k + 1]? = some y ∧ k + 1 < l.length) := by
  have hl : l.length = k + (x :: zs).length := by
    have := congrArg List.length hd
    rw [List.length_drop] at this
    have : (x :: zs).length ≠ 0 := by simp
    omega
  cases zs with
  | nil => exact .inl ⟨rfl, by simpa using hl⟩
  | cons y ys =>
    refine .inr ⟨y, ys, rfl, ?_, by rw [hl]; simp⟩
    have : (l.drop k)[1]? = some y := by rw [hd]; rfl
    rwa [List.getElem?_drop] at this
end Go.Abs
end
section
set_option linter.unusedVariables false
set_option linter.unusedSimpArgs false
namespace Go.Abs
end Go.Abs
end
section
set_option linter.unusedVariables false
set_option linter.unusedSimpArgs false
namespace Go.Abs
noncomputable def inF (l : List Form) (f : Form) : Bool := !alls (fun x => !same x f) l
theorem isIn_tr (l : List Form) (f : Form) : Tr (fun m => zew m l f) (inF l f) := by
  refine Tr.eq (fun m => by unfold zew; rfl) (Tr.bind ?_ Tr.val)
  refine Tr.eq (fun m => by unfold zbk; rfl) (Tr.bind (v := fnd (fun y => same y f) l 0) ?_ (Tr.of fun m => by rw [fnd_none]; rfl))
  refine Tr.eq (fun m => by unfold zbB; rfl) ?_
  exact zf8 (L := fun m j => zab m l f j) (E := fun m y => zfD m y f) (fun m j => by rw [zab]) (fun y _ => Tr.eq (fun m => by unfold zfD; rfl) (Tr.bind (zc3 _ _) Tr.val))
theorem l4In_tr (l : List Form) (f : Form) : Tr (fun m => zep m l f) (inF l f) := by
  refine Tr.eq (fun m => by unfold zep; rfl) ?_
  have key := zaB l (fun k zs => Tr (fun m => zcQ m l f (k : Int)) (inF zs f)) ?_ ?_ 0 (Nat.zero_le _)
  · simpa using key
  · exact Tr.step (fun m => by rw [zcQ, zah, cond_false]; rfl) Tr.val
  · intro k x zs hk hx hd ih
    refine Tr.step (fun m => by rw [zcQ, ltN hk, cond_true, zJ hx, Option.bind_some, zck]) (Tr.bind (specFormSame_tr _ _) ?_)
    unfold inF; rw [alls]
    cases same x f with
    | true => exact Tr.tt rfl Tr.val
    | false => exact Tr.ff rfl (by simpa [inF] using ih)
noncomputable def litF : List Form → List Form → Bool
  | _, [] => true
  | ps, x :: xs => isNm x && (!decide (x.name = dotsN) && (!decide (x.name = zeR) && (!inF ps x && litF (ps ++ [x]) xs)))
noncomputable def litOk (l : List Form) : Bool := litF [] l && decide ((l.length : Int) ≤ 9)
theorem implLit_tr (l : List Form) (hf : Form.fits l) : Tr (fun m => zdy m l) (litOk l) := by
  refine Tr.eq (fun m => by unfold zdy; rfl) ?_
  have key := zaB l (fun k zs => Tr (fun m => zbe m l (k : Int)) (litF (l.take k) zs && decide ((l.length : Int) ≤ 9))) ?_ ?_ 0 (Nat.zero_le _)
  · simpa [litOk] using key
  · exact Tr.step (fun m => by rw [zbe, zah, cond_false, litF, Bool.true_and]) Tr.val
  · intro k x zs hk hx hd ih
    have hm := List.mem_of_getElem? hx
    rw [zfP hx] at ih
    refine Tr.step (fun m => by rw [zbe, ltN hk, cond_true, zJ hx, Option.bind_some, zck]) (Tr.bind (zfE x (Form.fits_mem hf hm)) ?_)
    rw [litF]
    cases isNm x with
    | false => exact Tr.tt rfl Tr.val
    | true =>
    refine Tr.ff rfl ?_
    cases decide (x.name = dotsN) with
    | true => exact Tr.tt rfl Tr.val
    | false =>
    refine Tr.ff rfl ?_
    cases decide (x.name = zeR) with
    | true => exact Tr.tt rfl Tr.val
    | false =>
    refine Tr.ff rfl (Tr.eq (fun m => by rw [sub_take (by omega), Option.bind_some]) (Tr.bind (isIn_tr _ _) ?_))
    cases inF (l.take k) x with
    | true => exact Tr.tt rfl Tr.val
    | false => exact Tr.ff rfl (by simpa using ih)
theorem specLit_tr (l : List Form) (hf : Form.fits l) (hb : Form.ws l ≤ 2 ^ 36) : Tr (fun m => zdr m l) (litOk l) := by
  refine Tr.eq (fun m => by unfold zdr; rfl) ?_
  have hlen := Form.ws_len l
  have e9 : decide ((l.length : Int) < 10) = decide ((l.length : Int) ≤ 9) := by
    rw [Bool.eq_iff_iff, decide_eq_true_iff, decide_eq_true_iff]; omega
  have key := zaB l (fun k zs => Tr (fun m => za9 m l (k : Int)) (litF (l.take k) zs && decide ((l.length : Int) ≤ 9))) ?_ ?_ 0 (Nat.zero_le _)
  · simpa [litOk] using key
  · exact Tr.step (fun m => by rw [za9, zah, cond_false, litF, Bool.true_and, e9]) Tr.val
  · intro k x zs hk hx hd ih
    have hm := List.mem_of_getElem? hx
    have hmw := Form.ws_mem hm
    rw [zfP hx] at ih
    refine Tr.step (fun m => by rw [za9, ltN hk, cond_true, e9]) ?_
    by_cases h10 : k < 10
    case neg =>
      refine Tr.ff (decide_eq_false (by omega)) (Tr.of fun m => ?_)
      rw [decide_eq_false (show ¬ (l.length : Int) ≤ 9 by omega), Bool.and_false]
    refine Tr.tt (decide_eq_true (by omega)) (Tr.eq (fun m => by rw [zJ hx, Option.bind_some]) (Tr.bind (l3Is_tr x (Form.fits_mem hf hm) (by omega)) ?_))
    rw [litF]
    cases isNm x with
    | false => exact Tr.tt rfl Tr.val
    | true =>
    refine Tr.ff rfl (Tr.eq (fun m => by rw [Option.bind_some]) ?_)
    cases decide (x.name = dotsN) with
    | true => exact Tr.tt rfl Tr.val
    | false =>
    refine Tr.ff rfl (Tr.eq (fun m => by rw [Option.bind_some]) ?_)
    cases decide (x.name = zeR) with
    | true => exact Tr.tt rfl Tr.val
    | false =>
    refine Tr.ff rfl (Tr.eq (fun m => by rw [sub_take (by omega), Option.bind_some, Option.bind_some, zay (by omega), zck]) (Tr.bind (l4In_tr _ _) ?_))
    cases inF (l.take k) x with
    | true => exact Tr.tt rfl Tr.val
    | false => exact Tr.ff rfl (by simpa using ih)
def cntD : List Form → Nat
  | [] => 0
  | x :: xs => (bif zF x then 1 else 0) + cntD xs
mutual
def Form.shp : Form → Bool
  | .mk k nm n sc kids => !zF (.mk k nm n sc kids) && (Form.kP true kids && decide (cntD kids ≤ 1))
def Form.kP : Bool → List Form → Bool
  | _, [] => true
  | pd, x :: xs => (bif zF x then !pd else x.shp) && Form.kP (zF x) xs
end
theorem Form.shp_eq (f : Form) : f.shp = (!zF f && (Form.kP true f.kids && decide (cntD f.kids ≤ 1))) := by obtain ⟨a, b, c, d, e⟩ := f; rw [Form.shp]; rfl
mutual
theorem Form.shp_dots : ∀ f : Form, f.shp = (!zF f && f.dotsOk true)
  | .mk k nm n sc kids => by
    have := Form.kP_dots kids true false
    rw [Form.shp, Form.dotsOk, ← this]
    simp
theorem Form.kP_dots : ∀ (zs : List Form) (pd sn : Bool), (Form.kP pd zs && decide (cntD zs + (bif sn then 1 else 0) ≤ 1)) = Form.kD true pd sn zs
  | [], pd, sn => by rw [Form.kP, Form.kD, cntD]; cases sn <;> rfl
  | x :: xs, pd, sn => by
    have h1 := Form.shp_dots x
    have h2 := Form.kP_dots xs (zF x) (sn || zF x)
    rw [Form.kP, Form.kD, cntD, ← h2, h1]
    cases hx : zF x with
    | false => simp [Bool.and_assoc]
    | true =>
      cases sn with
      | false => simp [Bool.and_assoc, Nat.add_comm]
      | true => simp
end
theorem l4Shape_n : ∀ (n : Nat) (f : Form), f.w ≤ n → f.w ≤ 2 ^ 36 → Tr (fun m => zdj m f) f.shp := by
  intro n
  induction n with
  | zero => intro a h; have := a.w_pos; omega
  | succ n ih =>
    intro f h hb
    have hw := f.w_kids
    have hlen := Form.ws_len f.kids
    rw [Form.shp_eq]
    refine Tr.step (fun m => by rw [zdj]) (Tr.bind (zg1 f) ?_)
    cases zF f with
    | true => exact Tr.tt rfl Tr.val
    | false =>
    refine Tr.ff rfl ?_
    rw [Bool.not_false, Bool.true_and]
    have key := zaB f.kids (fun k zs => ∀ g : Nat, g ≤ k → Tr (fun m => zbv m f (g : Int) (k : Int)) (Form.kP (pdAt f.kids k) zs && decide (g + cntD zs ≤ 1))) ?_ ?_ 0 (Nat.zero_le _) 0 (Nat.le_refl _)
    · simpa [pdAt] using key
    · intro g _
      refine Tr.step (fun m => by rw [zbv, zah, cond_false]) (Tr.of fun m => ?_)
      rw [Form.kP, cntD, Bool.true_and]; congr 1
      rw [Bool.eq_iff_iff, decide_eq_true_iff, decide_eq_true_iff]; omega
    · intro k x zs hk hx hd ihk g hg
      have hm := Form.ws_mem (List.mem_of_getElem? hx)
      rw [pd_succ hx] at ihk
      refine Tr.step (fun m => by rw [zbv, ltN hk, cond_true, zJ hx, Option.bind_some, zck]) (Tr.bind (zg1 x) ?_)
      rw [Form.kP, cntD]
      cases hxd : zF x with
      | true =>
        rw [hxd] at ihk
        refine Tr.tt rfl ?_
        rw [cond_true]
        cases k with
        | zero => exact Tr.tt rfl Tr.val
        | succ j =>
          have hj : f.kids[j]? = some f.kids[j] := List.getElem?_eq_getElem (by omega)
          refine Tr.ff (decide_eq_false (by omega)) (Tr.eq (fun m => by rw [zay (by omega), show ((j + 1 : Nat) : Int) - 1 = (j : Int) by omega, zJ hj, Option.bind_some]) (Tr.bind (zg1 _) ?_))
          rw [pd_succ hj]
          cases zF f.kids[j] with
          | true => exact Tr.tt rfl Tr.val
          | false =>
            have := ihk (g + 1) (by omega)
            rw [Nat.add_assoc g 1] at this
            exact Tr.ff rfl (Tr.eq (fun m => by rw [zay (by omega), zck]) this)
      | false =>
        rw [hxd] at ihk
        refine Tr.ff rfl (Tr.eq (fun m => by rw [Option.bind_some]) (Tr.bind (ih x (by omega) (by omega)) ?_))
        rw [cond_false, cond_false, Nat.zero_add]
        cases x.shp with
        | false => exact Tr.tt rfl Tr.val
        | true => exact Tr.ff rfl (by simpa using ihk g (by omega))
end Go.Abs
end
section
set_option linter.unusedVariables false
set_option linter.unusedSimpArgs false
namespace Go.Abs
noncomputable def zcD (lits : List Form) (f : Form) : Bool := decide (f.kind = 1) && (!decide (f.name = dotsN) && (!decide (f.name = zeR) && !inF lits f))
theorem dec_ne {α : Type} (a b : α) [DecidableEq α] : decide (a ≠ b) = !decide (a = b) := by
  by_cases h : a = b
  · rw [decide_eq_true h, decide_eq_false (fun hh => hh h)]; rfl
  · rw [decide_eq_false h, decide_eq_true h]; rfl
theorem isVar_tr (f : Form) (lits : List Form) : Tr (fun m => zf6 m f lits) (zcD lits f) := by
  refine Tr.eq (fun m => by unfold zf6; rw [dec_ne, dec_ne]) ?_
  unfold zcD
  cases decide (f.kind = 1) with
  | false => exact Tr.ff rfl Tr.val
  | true =>
  refine Tr.tt rfl ?_
  cases decide (f.name = dotsN) with
  | true => exact Tr.ff rfl Tr.val
  | false =>
  refine Tr.tt rfl ?_
  cases decide (f.name = zeR) with
  | true => exact Tr.ff rfl Tr.val
  | false => exact Tr.tt rfl (Tr.bind (isIn_tr _ _) Tr.val)
theorem l4Var_tr (f : Form) (lits : List Form) : Tr (fun m => zfk m f lits) (zcD lits f) := by
  refine Tr.eq (fun m => by unfold zfk; rw [dec_ne, dec_ne]) ?_
  unfold zcD
  cases decide (f.kind = 1) with
  | false => exact Tr.ff rfl Tr.val
  | true =>
  refine Tr.tt rfl ?_
  cases decide (f.name = dotsN) with
  | true => exact Tr.ff rfl Tr.val
  | false =>
  refine Tr.tt rfl ?_
  cases decide (f.name = zeR) with
  | true => exact Tr.ff rfl Tr.val
  | false => exact Tr.tt rfl (Tr.bind (l4In_tr _ _) Tr.val)
mutual
noncomputable def Form.vd (lits : List Form) : Nat → Form → List (Form × Int)
  | v, .mk k nm n sc kids => (bif zcD lits (.mk k nm n sc kids) then [((Form.mk k nm n sc kids), (v : Int))] else []) ++ Form.kV lits v kids
noncomputable def Form.kV (lits : List Form) : Nat → List Form → List (Form × Int)
  | _, [] => []
  | v, x :: xs => (bif zb7 xs then x.vd lits (v + 1) else x.vd lits v) ++ Form.kV lits v xs
end
mutual
noncomputable def Form.vs (lits : List Form) : Form → List Form
  | .mk k nm n sc kids => (bif zcD lits (.mk k nm n sc kids) then [(Form.mk k nm n sc kids)] else []) ++ Form.kVs lits kids
noncomputable def Form.kVs (lits : List Form) : List Form → List Form
  | [] => []
  | x :: xs => x.vs lits ++ Form.kVs lits xs
end
theorem Form.vd_eq (lits : List Form) (v : Nat) (f : Form) : f.vd lits v = (bif zcD lits f then [(f, (v : Int))] else []) ++ Form.kV lits v f.kids := by obtain ⟨a, b, c, d, e⟩ := f; rw [Form.vd]; rfl
theorem Form.vs_eq (lits : List Form) (f : Form) : f.vs lits = (bif zcD lits f then [f] else []) ++ Form.kVs lits f.kids := by obtain ⟨a, b, c, d, e⟩ := f; rw [Form.vs]; rfl
mutual
theorem Form.vd_fst (lits : List Form) : ∀ (f : Form) (v : Nat), (f.vd lits v).map (·.1) = f.vs lits
  | .mk k nm n sc kids, v => by
    have := Form.kV_fst lits kids v
    rw [Form.vd, Form.vs, List.map_append, this]
    cases zcD lits (.mk k nm n sc kids) <;> rfl
theorem Form.kV_fst (lits : List Form) : ∀ (l : List Form) (v : Nat), (Form.kV lits v l).map (·.1) = Form.kVs lits l
  | [], v => by rw [Form.kV, Form.kVs]; rfl
  | x :: xs, v => by
    have h1 := Form.vd_fst lits x v
    have h2 := Form.vd_fst lits x (v + 1)
    have h3 := Form.kV_fst lits xs v
    rw [Form.kV, Form.kVs, List.map_append, h3]
    cases zb7 xs
    · rw [cond_false, h1]
    · rw [cond_true, h2]
end
mutual
theorem Form.vd_len (lits : List Form) : ∀ (f : Form) (v : Nat), (f.vd lits v).length ≤ f.w
  | .mk k nm n sc kids, v => by
    have := Form.kV_len lits kids v
    rw [Form.vd, Form.w, List.length_append]
    cases zcD lits (.mk k nm n sc kids) <;> simp <;> omega
theorem Form.kV_len (lits : List Form) : ∀ (l : List Form) (v : Nat), (Form.kV lits v l).length ≤ Form.ws l
  | [], v => by rw [Form.kV]; simp
  | x :: xs, v => by
    have h1 := Form.vd_len lits x v
    have h2 := Form.vd_len lits x (v + 1)
    have h3 := Form.kV_len lits xs v
    rw [Form.kV, Form.ws, List.length_append]
    cases zb7 xs
    · rw [cond_false]; omega
    · rw [cond_true]; omega
end
theorem set_last {α : Type} (l : List α) (z x : α) : (l ++ [z]).set (l.length : Int).toNat x = l ++ [x] := by
  rw [Int.toNat_natCast, List.set_append_right _ _ (Nat.le_refl _), Nat.sub_self]; rfl
theorem patternVars_n (lits : List Form) : ∀ (n : Nat) (f : Form) (v : Nat) (a : List Form) (b : List Int), f.w ≤ n → f.w + v ≤ 2 ^ 37 → a.length + f.w ≤ 2 ^ 37 → b.length + f.w ≤ 2 ^ 37 →
    Tr (fun m => za0 m f lits (v : Int) a b) (a ++ (f.vd lits v).map (·.1), b ++ (f.vd lits v).map (·.2)) := by
  intro n
  induction n with
  | zero => intro a v _ _ h; have := a.w_pos; omega
  | succ n ih =>
    intro f v a b h hb ha hbb
    have hw := f.w_kids
    have hlen := Form.ws_len f.kids
    have loop : ∀ k, k ≤ f.kids.length → ∀ (a : List Form) (b : List Int), a.length + Form.ws (f.kids.drop k) ≤ 2 ^ 37 → b.length + Form.ws (f.kids.drop k) ≤ 2 ^ 37 → Tr (fun m => zG m f lits (v : Int) (k : Int) a b) (a ++ (Form.kV lits v (f.kids.drop k)).map (·.1), b ++ (Form.kV lits v (f.kids.drop k)).map (·.2)) := by
      refine zaB f.kids (fun k zs => ∀ (a : List Form) (b : List Int), a.length + Form.ws zs ≤ 2 ^ 37 → b.length + Form.ws zs ≤ 2 ^ 37 → Tr (fun m => zG m f lits (v : Int) (k : Int) a b) (a ++ (Form.kV lits v zs).map (·.1), b ++ (Form.kV lits v zs).map (·.2))) ?_ ?_
      · intro a b _ _
        exact Tr.step (fun m => by rw [zG, zah, cond_false, Form.kV]; simp) Tr.val
      · intro k x zs hk hx hd ihk a b ha B2
        have hm := Form.ws_mem (List.mem_of_getElem? hx)
        rw [Form.ws] at ha B2
        have l0 := Form.vd_len lits x v
        have l1 := Form.vd_len lits x (v + 1)
        refine Tr.step (fun m => by rw [zG, ltN hk, cond_true, zJ hx, Option.bind_some, zck]) ?_
        have plain : Tr (fun m => (za0 m x lits (v : Int) a b).bind fun v19 => zG m f lits (v : Int) ((k + 1 : Nat) : Int) v19.1 v19.2) (a ++ (x.vd lits v ++ Form.kV lits v zs).map (·.1), b ++ (x.vd lits v ++ Form.kV lits v zs).map (·.2)) := by
          refine Tr.bind (ih x v a b (by omega) (by omega) (by omega) (by omega)) ?_
          have := ihk (a ++ (x.vd lits v).map (·.1)) (b ++ (x.vd lits v).map (·.2)) (by simp; omega) (by simp; omega)
          simpa only [List.map_append, List.append_assoc] using this
        rcases next_get hd with ⟨rfl, hl⟩ | ⟨y, ys, rfl, hy, hl⟩
        · rw [Form.kV, zb7, cond_false]
          exact Tr.ff (decide_eq_false (by omega)) plain
        · rw [Form.kV, zb7]
          refine Tr.tt (decide_eq_true (by omega)) (Tr.eq (fun m => by rw [zJ hy, Option.bind_some]) (Tr.bind (named_tr _ _) ?_))
          rw [show (decide (y.kind = 1) && decide (y.name = (⟨#[46, 46, 46]⟩ : ByteArray))) = zF y from rfl]
          cases zF y with
          | false => exact Tr.ff rfl plain
          | true =>
          refine Tr.tt rfl (Tr.eq (fun m => by rw [zay (by omega), zck]) (Tr.bind (ih x (v + 1) a b (by omega) (by omega) (by omega) (by omega)) ?_))
          rw [cond_true]
          have := ihk (a ++ (x.vd lits (v + 1)).map (·.1)) (b ++ (x.vd lits (v + 1)).map (·.2)) (by simp; omega) (by simp; omega)
          simpa only [List.map_append, List.append_assoc] using this
    have l0 := fun a b h1 h2 => loop 0 (Nat.zero_le _) a b (by rw [List.drop_zero]; exact h1) (by rw [List.drop_zero]; exact h2)
    simp only [List.drop_zero] at l0
    rw [Form.vd_eq]
    refine Tr.step (fun m => by rw [za0]) (Tr.bind (isVar_tr _ _) ?_)
    cases zcD lits f with
    | false => exact Tr.ff rfl (l0 a b (by omega) (by omega))
    | true =>
      refine Tr.tt rfl (Tr.chk (by simp; omega) ?_)
      refine Tr.eq (fun m => by rw [zJ (l := a ++ [zfU]) (k := a.length) (x := zfU) (by simp), Option.bind_some, set_last]) (Tr.chk (by simp; omega) ?_)
      have := l0 (a ++ [f]) (b ++ [(v : Int)]) (by simp; omega) (by simp; omega)
      simpa using this
theorem varsOf_tr (f : Form) (lits : List Form) (hb : f.w ≤ 2 ^ 36) : Tr (fun m => zeK m f lits) ((f.vd lits 0).map (·.1), (f.vd lits 0).map (·.2)) := by
  refine Tr.eq (fun m => by unfold zeK; rfl) (Tr.bind (patternVars_n lits _ f 0 [] [] (Nat.le_refl _) (by omega) (by simp; omega) (by simp; omega)) ?_)
  simpa using Tr.val
theorem l4Vars_n (lits : List Form) : ∀ (n : Nat) (f : Form) (a : List Form), f.w ≤ n → a.length + f.w ≤ 2 ^ 37 → Tr (fun m => zcK m a f lits) (a ++ f.vs lits) ∧ (f.vs lits).length ≤ f.w := by
  intro n
  induction n with
  | zero => intro a _ h; have := a.w_pos; omega
  | succ n ih =>
    intro f a h ha
    have hw := f.w_kids
    have hlenv : (f.vs lits).length ≤ f.w := by have := Form.vd_len lits f 0; rw [← Form.vd_fst lits f 0, List.length_map]; exact this
    refine ⟨?_, hlenv⟩
    have loop : ∀ k, k ≤ f.kids.length → ∀ (a : List Form), a.length + Form.ws (f.kids.drop k) ≤ 2 ^ 37 → Tr (fun m => zaL m f lits a (k : Int)) (a ++ Form.kVs lits (f.kids.drop k)) := by
      refine zaB f.kids (fun k zs => ∀ (a : List Form), a.length + Form.ws zs ≤ 2 ^ 37 → Tr (fun m => zaL m f lits a (k : Int)) (a ++ Form.kVs lits zs)) ?_ ?_
      · intro a _
        exact Tr.step (fun m => by rw [zaL, zah, cond_false, Form.kVs]; simp) Tr.val
      · intro k x zs hk hx hd ihk a ha
        have hm := Form.ws_mem (List.mem_of_getElem? hx)
        rw [Form.ws] at ha
        obtain ⟨i1, i2⟩ := ih x a (by omega) (by omega)
        refine Tr.step (fun m => by rw [zaL, ltN hk, cond_true, zJ hx, Option.bind_some, zck]) (Tr.bind i1 ?_)
        rw [Form.kVs, ← List.append_assoc]
        exact ihk _ (by simp; omega)
    have l0 := fun a h1 => loop 0 (Nat.zero_le _) a (by rw [List.drop_zero]; exact h1)
    simp only [List.drop_zero] at l0
    rw [Form.vs_eq]
    refine Tr.step (fun m => by rw [zcK]) (Tr.bind (l4Var_tr _ _) ?_)
    cases zcD lits f with
    | false => exact Tr.ff rfl (l0 a (by omega))
    | true =>
      refine Tr.tt rfl (Tr.chk (by simp; omega) ?_)
      have := l0 (a ++ [f]) (by simp; omega)
      simpa using this
theorem l4Depths_n (lits : List Form) : ∀ (n : Nat) (f : Form) (v : Nat) (b : List Int), f.w ≤ n → f.w + v ≤ 2 ^ 37 → b.length + f.w ≤ 2 ^ 37 → Tr (fun m => za7 m b f lits (v : Int)) (b ++ (f.vd lits v).map (·.2)) := by
  intro n
  induction n with
  | zero => intro a v _ h; have := a.w_pos; omega
  | succ n ih =>
    intro f v b h hb hbb
    have hw := f.w_kids
    have hlen := Form.ws_len f.kids
    have loop : ∀ k, k ≤ f.kids.length → ∀ (b : List Int), b.length + Form.ws (f.kids.drop k) ≤ 2 ^ 37 → Tr (fun m => zV m f lits (v : Int) b (k : Int)) (b ++ (Form.kV lits v (f.kids.drop k)).map (·.2)) := by
      refine zaB f.kids (fun k zs => ∀ (b : List Int), b.length + Form.ws zs ≤ 2 ^ 37 → Tr (fun m => zV m f lits (v : Int) b (k : Int)) (b ++ (Form.kV lits v zs).map (·.2))) ?_ ?_
      · intro b _
        exact Tr.step (fun m => by rw [zV, zah, cond_false, Form.kV]; simp) Tr.val
      · intro k x zs hk hx hd ihk b B2
        have hm := Form.ws_mem (List.mem_of_getElem? hx)
        rw [Form.ws] at B2
        have l0 := Form.vd_len lits x v
        have l1 := Form.vd_len lits x (v + 1)
        refine Tr.step (fun m => by rw [zV, ltN hk, cond_true, zJ hx, zck]) ?_
        have plain : Tr (fun m => (za7 m b x lits (v : Int)).bind fun v18 => zV m f lits (v : Int) v18 ((k + 1 : Nat) : Int)) (b ++ (x.vd lits v ++ Form.kV lits v zs).map (·.2)) := by
          refine Tr.bind (ih x v b (by omega) (by omega) (by omega)) ?_
          have := ihk (b ++ (x.vd lits v).map (·.2)) (by simp; omega)
          simpa only [List.map_append, List.append_assoc] using this
        rcases next_get hd with ⟨rfl, hl⟩ | ⟨y, ys, rfl, hy, hl⟩
        · rw [Form.kV, zb7, cond_false]
          exact Tr.ff (decide_eq_false (by omega)) (Tr.eq (fun m => by rw [Option.bind_some]) plain)
        · rw [Form.kV, zb7]
          refine Tr.tt (decide_eq_true (by omega)) (Tr.eq (fun m => by rw [zJ hy, Option.bind_some]) (Tr.bind (zg1 _) ?_))
          cases zF y with
          | false => exact Tr.ff rfl (Tr.eq (fun m => by rw [Option.bind_some]) plain)
          | true =>
          refine Tr.tt rfl (Tr.eq (fun m => by rw [Option.bind_some, zay (by omega), zck]) (Tr.bind (ih x (v + 1) b (by omega) (by omega) (by omega)) ?_))
          rw [cond_true]
          have := ihk (b ++ (x.vd lits (v + 1)).map (·.2)) (by simp; omega)
          simpa only [List.map_append, List.append_assoc] using this
    have l0 := fun b h1 => loop 0 (Nat.zero_le _) b (by rw [List.drop_zero]; exact h1)
    simp only [List.drop_zero] at l0
    rw [Form.vd_eq]
    refine Tr.step (fun m => by rw [za7]) (Tr.bind (l4Var_tr _ _) ?_)
    cases zcD lits f with
    | false => exact Tr.ff rfl (l0 b (by omega))
    | true =>
      refine Tr.tt rfl (Tr.chk (by simp; omega) ?_)
      have := l0 (b ++ [(v : Int)]) (by simp; omega)
      simpa using this
end Go.Abs
end
section
set_option linter.unusedVariables false
set_option linter.unusedSimpArgs false
namespace Go.Abs
noncomputable def distF : List Form → List Form → Bool
  | _, [] => true
  | ps, x :: xs => !inF ps x && distF (ps ++ [x]) xs
def dsOk (l : List Int) : Bool := alls (fun d => !decide (3 < d)) l
noncomputable def patOk (f : Form) (lits : List Form) : Bool := f.valid && (litOk lits && (f.shp && ((distF [] (f.vs lits) && dsOk ((f.vd lits 0).map (·.2))) && decide (((f.vs lits).length : Int) ≤ 20))))
theorem patLoop_tr (l : List (Form × Int)) (hl : l.length ≤ 2 ^ 37) : Tr (fun m => zaE m (l.map (·.1), l.map (·.2)) 0 (l.map (·.1))) ((distF [] (l.map (·.1)) && dsOk (l.map (·.2))) && decide (((l.map (·.1)).length : Int) ≤ 20)) := by
  have key := zaB l (fun k zs => Tr (fun m => zaE m (l.map (·.1), l.map (·.2)) (k : Int) (l.map (·.1))) ((distF ((l.map (·.1)).take k) (zs.map (·.1)) && dsOk (zs.map (·.2))) && decide (((l.map (·.1)).length : Int) ≤ 20))) ?_ ?_ 0 (Nat.zero_le _)
  · simpa using key
  · exact Tr.step (fun m => by rw [zaE, List.length_map, zah, cond_false]; simp [distF, dsOk, alls]) Tr.val
  · intro k x zs hk hx hd ih
    have h1 : (l.map (·.1))[k]? = some x.1 := by rw [List.getElem?_map, hx]; rfl
    have h2 : (l.map (·.2))[k]? = some x.2 := by rw [List.getElem?_map, hx]; rfl
    have hk1 : k < (l.map (·.1)).length := by simpa using hk
    rw [zfP h1] at ih
    refine Tr.step (fun m => by rw [zaE, ltN hk1, cond_true, zJ h1, Option.bind_some, sub_take (by omega), Option.bind_some]) (Tr.bind (isIn_tr _ _) ?_)
    rw [List.map_cons, List.map_cons, distF, dsOk, alls]
    cases inF ((l.map (·.1)).take k) x.1 with
    | true => exact Tr.tt rfl Tr.val
    | false =>
    refine Tr.ff rfl (Tr.eq (fun m => by rw [zJ h2, Option.bind_some, zay (by omega), zck]) ?_)
    cases decide (3 < x.2) with
    | true =>
      rw [Bool.not_true, Bool.false_and, Bool.and_false]
      exact Tr.tt rfl Tr.val
    | false => exact Tr.ff rfl (by simpa [dsOk] using ih)
theorem implPatternValid_tr (f : Form) (lits : List Form) (hf : f.fit) (hb : f.w ≤ 2 ^ 36) (hl : Form.fits lits) : Tr (fun m => zc1 m f lits) (patOk f lits) := by
  refine Tr.eq (fun m => by unfold zc1; rfl) (Tr.bind (zdd f hf) ?_)
  unfold patOk
  cases f.valid with
  | false => exact Tr.tt rfl Tr.val
  | true =>
  refine Tr.ff rfl (Tr.bind (implLit_tr lits hl) ?_)
  cases litOk lits with
  | false => exact Tr.tt rfl Tr.val
  | true =>
  refine Tr.ff rfl (Tr.bind (named_tr _ _) ?_)
  rw [show (decide (f.kind = 1) && decide (f.name = (⟨#[46, 46, 46]⟩ : ByteArray))) = zF f from rfl, Form.shp_dots]
  cases zF f with
  | true => exact Tr.tt rfl Tr.val
  | false =>
  refine Tr.ff rfl (Tr.bind (dotsOk_tr true f hb) ?_)
  cases f.dotsOk true with
  | false => exact Tr.tt rfl Tr.val
  | true =>
  refine Tr.ff rfl (Tr.bind (varsOf_tr f lits hb) ?_)
  have := patLoop_tr (f.vd lits 0) (by have := Form.vd_len lits f 0; omega)
  rw [← Form.vd_fst lits f 0]
  exact this
theorem l4Is_tr (f : Form) (lits : List Form) (hf : f.fit) (hb : f.w ≤ 2 ^ 36) (hl : Form.fits lits) (hlb : Form.ws lits ≤ 2 ^ 36) : Tr (fun m => zgr m f lits) (patOk f lits) := by
  refine Tr.eq (fun m => by unfold zgr; rfl) (Tr.bind (zga f hf hb) ?_)
  unfold patOk
  cases f.valid with
  | false => exact Tr.tt rfl Tr.val
  | true =>
  refine Tr.ff rfl (Tr.bind (specLit_tr lits hl hlb) ?_)
  cases litOk lits with
  | false => exact Tr.tt rfl Tr.val
  | true =>
  refine Tr.ff rfl (Tr.bind (l4Shape_n _ f (Nat.le_refl _) hb) ?_)
  cases f.shp with
  | false => exact Tr.tt rfl Tr.val
  | true =>
  refine Tr.ff rfl (Tr.bind (l4Vars_n lits _ f [] (Nat.le_refl _) (by simp; omega)).1 ?_)
  rw [List.nil_append]
  have key := zaB (f.vs lits) (fun k zs => Tr (fun m => zcP m f lits (k : Int) (f.vs lits)) ((distF ((f.vs lits).take k) zs && dsOk ((f.vd lits 0).map (·.2))) && decide (((f.vs lits).length : Int) ≤ 20))) ?_ ?_ 0 (Nat.zero_le _)
  · simpa using key
  · refine Tr.step (fun m => by rw [zcP, zah, cond_false]) ?_
    refine Tr.bind (l4Depths_n lits _ f 0 [] (Nat.le_refl _) (by omega) (by simp; omega)) ?_
    rw [List.nil_append, distF, Bool.true_and]
    have inner := zaB ((f.vd lits 0).map (·.2)) (fun j ws => Tr (fun m => zcO m (f.vs lits) ((f.vd lits 0).map (·.2)) (j : Int)) (dsOk ws && decide (((f.vs lits).length : Int) ≤ 20))) ?_ ?_ 0 (Nat.zero_le _)
    · simpa using inner
    · exact Tr.step (fun m => by rw [zcO, zah, cond_false]; simp [dsOk, alls]) Tr.val
    · intro j y ws hj hy hdj ihj
      refine Tr.step (fun m => by rw [zcO, ltN hj, cond_true, zJ hy, Option.bind_some, zck]) ?_
      rw [dsOk, alls]
      cases decide (3 < y) with
      | true => exact Tr.tt rfl Tr.val
      | false => exact Tr.ff rfl (by simpa [dsOk] using ihj)
  · intro k x zs hk hx hd ih
    rw [zfP hx] at ih
    refine Tr.step (fun m => by rw [zcP, ltN hk, cond_true, sub_take (by omega), Option.bind_some, zJ hx, Option.bind_some, zck]) (Tr.bind (l4In_tr _ _) ?_)
    rw [distF]
    cases inF ((f.vs lits).take k) x with
    | true => exact Tr.tt rfl Tr.val
    | false => exact Tr.ff rfl (by simpa using ih)
mutual
theorem Form.vd_nn (lits : List Form) : ∀ (f : Form) (v : Nat), ∀ x ∈ f.vd lits v, 0 ≤ x.2
  | .mk k nm n sc kids, v, x, hx => by
    have := Form.kV_nn lits kids v x
    rw [Form.vd, List.mem_append] at hx
    rcases hx with hx | hx
    · cases h : zcD lits (.mk k nm n sc kids) with
      | true => rw [h, cond_true, List.mem_singleton] at hx; subst hx; exact Int.natCast_nonneg v
      | false => rw [h, cond_false] at hx; cases hx
    · exact this hx
theorem Form.kV_nn (lits : List Form) : ∀ (l : List Form) (v : Nat), ∀ x ∈ Form.kV lits v l, 0 ≤ x.2
  | [], v, x, hx => by rw [Form.kV] at hx; cases hx
  | y :: ys, v, x, hx => by
    have h1 := Form.vd_nn lits y v x
    have h2 := Form.vd_nn lits y (v + 1) x
    have h3 := Form.kV_nn lits ys v x
    rw [Form.kV, List.mem_append] at hx
    rcases hx with hx | hx
    · cases h : zb7 ys with
      | true => rw [h, cond_true] at hx; exact h2 hx
      | false => rw [h, cond_false] at hx; exact h1 hx
    · exact h3 hx
end
end Go.Abs
end
end
section
set_option linter.unusedVariables false
set_option linter.unusedSimpArgs false
namespace Go.Abs
theorem byte_mem {r : zb9} {K : Int} (h : OkRd r K) {x : Int} (hx : x ∈ r.b) : 0 ≤ x ∧ x < 256 := h.byte x hx
theorem tmod_lt {a b : Int} (ha : 0 ≤ a) (hb : 0 < b) : 0 ≤ a.tmod b ∧ a.tmod b < b := by
  rw [Int.tmod_eq_emod_of_nonneg ha]
  exact ⟨Int.emod_nonneg _ (by omega), Int.emod_lt_of_pos _ hb⟩
theorem zgQ (o : zb9) (n : Int) (K : Int) (h : OkRd o K) (hK : K ≤ 1000000000000) : TQ (fun m => zad m o n) (fun r => OkRd r.2 (K + 1) ∧ r.2.b = o.b ∧ (0 < n → 0 ≤ r.1 ∧ r.1 < n) ∧ (n ≤ 0 → r.1 = 0)) := by
  have h0 := h.lo
  have h1 := h.hi
  have e1 : w64 (o.p + 1) = o.p + 1 := zay (by omega)
  have e2 : w64 (o.p + 1 - 1) = o.p := by rw [zay (by omega)]; omega
  have hok : OkRd (zb9.mk o.b (o.p + 1)) (K + 1) := ⟨h.len, h.byte, by simp only; omega, by simp only; omega⟩
  refine TQ.eq (fun m => by unfold zad; rw [e1, e2]) ?_
  refine TQ.cond (fun hc => TQ.val ⟨hok, rfl, fun hn => ?_, fun _ => rfl⟩) (fun hc => ?_)
  · simp at hc; omega
  have hn : 0 < n := by simp at hc; omega
  refine TQ.cond (fun C2 => TQ.val ⟨hok, rfl, fun _ => ⟨Int.le_refl _, hn⟩, fun _ => rfl⟩) (fun C2 => ?_)
  have hlen : 0 < o.b.length := by simp at C2; exact List.length_pos_iff.2 C2
  have hlen2 := h.len
  refine TQ.cond (fun C3 => ?_) (fun C3 => ?_)
  · refine TQ.idx h0 (by simpa using C3) (fun x hx => ?_)
    obtain ⟨b0, b1⟩ := byte_mem h hx
    refine TQ.chk (by simp; omega) (TQ.val ⟨hok, rfl, fun _ => ?_, fun hh => absurd hn (by omega)⟩)
    rw [zay (by omega)]
    exact tmod_lt b0 hn
  · refine TQ.chk (by simp; exact List.length_pos_iff.1 hlen) ?_
    obtain ⟨i0, i1⟩ := tmod_lt h0 (show (0 : Int) < o.b.length by omega)
    refine TQ.idx i0 i1 (fun x hx => ?_)
    obtain ⟨b0, b1⟩ := byte_mem h hx
    refine TQ.chk (by simp; exact List.length_pos_iff.1 hlen) ?_
    have e3 : w64 (w64 (o.p * 7) + 3) = o.p * 7 + 3 := by rw [zay (n := o.p * 7) (by omega), zay (by omega)]
    rw [e3]
    obtain ⟨j0, j1⟩ := tmod_lt (show (0 : Int) ≤ o.p * 7 + 3 by omega) (show (0 : Int) < o.b.length by omega)
    refine TQ.idx j0 j1 (fun y hy => ?_)
    obtain ⟨c0, c1⟩ := byte_mem h hy
    refine TQ.chk (by simp; exact List.length_pos_iff.1 hlen) ?_
    refine TQ.chk (by simp; omega) (TQ.val ⟨hok, rfl, fun _ => ?_, fun hh => absurd hn (by omega)⟩)
    have q1 : 0 ≤ o.p.tdiv o.b.length ∧ o.p.tdiv o.b.length ≤ o.p := by
      rw [Int.tdiv_eq_ediv_of_nonneg h0]
      exact ⟨Int.ediv_nonneg h0 (by omega), Int.ediv_le_self _ h0⟩
    have e4 : w64 (w64 (w64 (w64 (w64 x * 131) + w64 (w64 y * 1117)) + w64 (o.p * 29)) + w64 (w64 (o.p.tdiv o.b.length) * 53)) = x * 131 + y * 1117 + o.p * 29 + o.p.tdiv o.b.length * 53 := by
      rw [zay (n := x) (by omega), zay (n := y) (by omega), zay (n := x * 131) (by omega), zay (n := y * 1117) (by omega), zay (n := x * 131 + y * 1117) (by omega), zay (n := o.p * 29) (by omega), zay (n := o.p.tdiv o.b.length) (by omega), zay (n := o.p.tdiv o.b.length * 53) (by omega), zay (n := x * 131 + y * 1117 + o.p * 29) (by omega), zay (by omega)]
    rw [e4]
    have hx0 : 0 ≤ x * 131 + y * 1117 + o.p * 29 + o.p.tdiv o.b.length * 53 := by omega
    have hx1 : x * 131 + y * 1117 + o.p * 29 + o.p.tdiv o.b.length * 53 < 2 ^ 60 := by omega
    generalize x * 131 + y * 1117 + o.p * 29 + o.p.tdiv o.b.length * 53 = z at hx0 hx1
    have hz : 0 ≤ z.tdiv 64 ∧ z.tdiv 64 ≤ z := by
      rw [Int.tdiv_eq_ediv_of_nonneg hx0]
      exact ⟨by omega, by omega⟩
    rw [zay (n := z.tdiv 64) (by omega)]
    exact tmod_lt (xor_nonneg hx0 (by omega) hz.1 (by omega)) hn
theorem num_tq (o : zb9) (l : List Int) (K : Int) (h : OkRd o K) (hK : K ≤ 1000000000000) (hl : 0 < l.length) : TQ (fun m => zaM m o l) (fun r => OkRd r.2 (K + 1) ∧ r.1 ∈ l) := by
  refine TQ.eq (fun m => by unfold zaM; rfl) ?_
  refine TQ.bind (zgQ o _ K h hK) (fun v hv => ?_)
  obtain ⟨h1, _, h2, _⟩ := hv
  obtain ⟨h2, h3⟩ := h2 (by omega)
  exact TQ.idx h2 h3 (fun x hx => TQ.val ⟨h1, hx⟩)
theorem of_tq (o : zb9) (l : List ByteArray) (K : Int) (h : OkRd o K) (hK : K ≤ 1000000000000) (hl : 0 < l.length) : TQ (fun m => zcW m o l) (fun r => OkRd r.2 (K + 1) ∧ r.1 ∈ l) := by
  refine TQ.eq (fun m => by unfold zcW; rfl) ?_
  refine TQ.bind (zgQ o _ K h hK) (fun v hv => ?_)
  obtain ⟨h1, _, h2, _⟩ := hv
  obtain ⟨h2, h3⟩ := h2 (by omega)
  exact TQ.idx h2 h3 (fun x hx => TQ.val ⟨h1, hx⟩)
theorem open_tq (code : List Int) (h : ∀ x ∈ code, 0 ≤ x ∧ x < 256) : TQ (fun m => zed m code) (fun r => OkRd r 0) := by
  refine TQ.eq (fun m => by unfold zed; rfl) ?_
  refine TQ.cond (fun hc => ?_) (fun hc => ?_)
  · have hlt : 2000 < code.length := by simp at hc; omega
    have e : sub code 0 2000 = some (code.take 2000) := by
      unfold sub
      have : (2000 : Int) ≤ code.length := by omega
      simp [this]
    refine ⟨_, Tr.eq (fun m => by rw [e]; rfl) Tr.val, ⟨?_, ?_, ?_, ?_⟩⟩
    · simp [List.length_take]; omega
    · intro x hx; exact h x (List.mem_of_mem_take hx)
    · simp
    · simp
  · refine TQ.val ⟨?_, h, ?_, ?_⟩
    · simp at hc; simp; omega
    · simp
    · simp
end Go.Abs
end
section
set_option linter.unusedVariables false
set_option linter.unusedSimpArgs false
namespace Go.Abs
theorem l1Copy_tr : ∀ (n : Nat) (f : Form), f.w ≤ n → f.w ≤ 2 ^ 36 → Tr (fun m => zcn m f) f := by
  intro n
  induction n with
  | zero => intro f h _; have := f.w_kids; omega
  | succ n ih =>
    intro f h hb
    have hw := f.w_kids
    have hl := Form.ws_len f.kids
    refine Tr.step (fun m => by rw [zcn]) ?_
    refine Tr.chk (by simp; omega) ?_
    have key := zaB f.kids (fun k ys => ∀ acc : List Form, acc.length = k → Tr (fun m => zb3 m f (k : Int) acc) (Form.mk f.kind f.name f.n f.scopes (acc ++ ys))) ?_ ?_ 0 (Nat.zero_le _) [] rfl
    · rw [List.drop_zero, List.nil_append] at key
      obtain ⟨a, b, c, d, e⟩ := f
      exact key
    · intro acc _
      refine Tr.step (fun m => by rw [zb3, zah]) ?_
      rw [List.append_nil]; exact Tr.val
    · intro k x xs hk hx hd ihk acc hacc
      have hmem : x ∈ f.kids := List.mem_of_getElem? hx
      have hxw := Form.ws_mem hmem
      refine Tr.step (fun m => by rw [zb3, ltN hk, zJ hx, zck]) ?_
      refine Tr.bind (ih x (by omega) (by omega)) ?_
      refine Tr.chk (by simp; omega) ?_
      have := ihk (acc ++ [x]) (by simp; exact hacc)
      rwa [List.append_assoc] at this
theorem Tr.add {α : Type} {F : Nat → Option α} {v : α} (n : Nat) (h : ∀ k, F (k + n) = some v) : Tr F v := ⟨n, fun m hm => by
  have := h (m - n)
  rwa [Nat.sub_add_cancel hm] at this⟩
theorem Form.ws_set : ∀ (l : List Form) (i : Nat) (x : Form) (B : Nat), (∀ y, l[i]? = some y → x.w ≤ y.w + B) → Form.ws (l.set i x) ≤ Form.ws l + B
  | [], i, x, B, _ => by simp [Form.ws]
  | y :: l, 0, x, B, h => by
    have := h y rfl
    rw [List.set_cons_zero, Form.ws, Form.ws]; omega
  | y :: l, i + 1, x, B, h => by
    have := Form.ws_set l i x B (fun z hz => h z (by simpa using hz))
    rw [List.set_cons_succ, Form.ws, Form.ws]; omega
theorem Form.fits_set : ∀ (l : List Form) (i : Nat) (x : Form), Form.fits l → x.fit → Form.fits (l.set i x)
  | [], i, x, h, _ => by simpa using h
  | y :: l, 0, x, h, hx => by
    rw [Form.fits] at h; rw [List.set_cons_zero, Form.fits]; exact ⟨hx, h.2⟩
  | y :: l, i + 1, x, h, hx => by
    rw [Form.fits] at h; rw [List.set_cons_succ, Form.fits]; exact ⟨h.1, Form.fits_set l i x h.2 hx⟩
def mutF (v1 : Form) (o1 : zb9) (fuel : Nat) : Option (Form × zb9) :=
 (zad fuel o1 14).bind fun v9 =>
 (bif (decide (v9.1 = 0)) then
 (zaM fuel v9.2 [0, 4, 1, 3]).bind fun v11 =>
 some ((Form.mk v11.1 v1.name v1.n v1.scopes v1.kids), v11.2)
 else
 (bif (decide (v9.1 = 1)) then
 (zcW fuel v9.2 [(⟨#[]⟩ : ByteArray), (⟨#[65]⟩ : ByteArray), (⟨#[116, 111, 111, 108, 111, 110, 103, 97, 110, 97, 109, 101, 49]⟩ : ByteArray), (⟨#[122]⟩ : ByteArray), (⟨#[120, 32, 121]⟩ : ByteArray)]).bind fun v13 =>
 some ((Form.mk v1.kind v13.1 v1.n v1.scopes v1.kids), v13.2)
 else
 (bif (decide (v9.1 = 2)) then
 (zaM fuel v9.2 [1000, (-1), 5]).bind fun v15 =>
 some ((Form.mk v1.kind v1.name v15.1 v1.scopes v1.kids), v15.2)
 else
 (bif (decide (v9.1 = 3)) then
 (zaM fuel v9.2 [0, 100, 1, 50]).bind fun v17 =>
 chk (decide ((v1.scopes.length + [v17.1].length) * 8 ≤ 140737488355328)) <|
 some ((Form.mk v1.kind v1.name v1.n (v1.scopes ++ [v17.1]) v1.kids), v17.2)
 else
 some (v1, v9.2)))))
theorem mutF_tq (v1 : Form) (o : zb9) (K : Int) (h : OkRd o K) (hK : K + 2 ≤ 1000000000) (hw : v1.w ≤ 2 ^ 36) (hf : v1.fit) : TQ (mutF v1 o) (fun r => OkRd r.2 (K + 2) ∧ r.1.w ≤ v1.w + 1 ∧ r.1.fit) := by
  have hk := v1.w_kids
  obtain ⟨f1, f2, f3, f4⟩ := hf.parts
  unfold mutF
  refine TQ.bind (zgQ o 14 _ h (by omega)) (fun v hv => ?_)
  refine TQ.cond (fun _ => ?_) (fun _ => TQ.cond (fun _ => ?_) (fun _ => TQ.cond (fun _ => ?_) (fun _ => TQ.cond (fun _ => ?_) (fun _ => ?_))))
  · exact TQ.bind (num_tq _ _ _ hv.1 (by omega) (by decide)) (fun w hw => TQ.val ⟨hw.1.mono (by omega), by simp only [Form.w]; omega, by rw [Form.fit]; exact ⟨f1, f2, f3, f4⟩⟩)
  · exact TQ.bind (of_tq _ _ _ hv.1 (by omega) (by decide)) (fun w hw => TQ.val ⟨hw.1.mono (by omega), by simp only [Form.w]; omega, by
      rw [Form.fit]
      refine ⟨?_, f2, f3, f4⟩
      have h2 := hw.2
      simp only [List.mem_cons, List.not_mem_nil, or_false] at h2
      rcases h2 with h2 | h2 | h2 | h2 | h2 <;> rw [h2] <;> decide⟩)
  · exact TQ.bind (num_tq _ _ _ hv.1 (by omega) (by decide)) (fun w hw => TQ.val ⟨hw.1.mono (by omega), by simp only [Form.w]; omega, by rw [Form.fit]; exact ⟨f1, f2, f3, f4⟩⟩)
  · exact TQ.bind (num_tq _ _ _ hv.1 (by omega) (by decide)) (fun w hw => TQ.chk (by simp; omega) (TQ.val ⟨hw.1.mono (by omega), by simp only [Form.w, List.length_append, List.length_cons, List.length_nil]; omega, by rw [Form.fit]; exact ⟨f1, by simp only [List.length_append, List.length_cons, List.length_nil]; omega, f3, f4⟩⟩))
  · exact TQ.val ⟨hv.1.mono (by omega), Nat.le_succ _, hf⟩
theorem l1Mutate_tq : ∀ (n : Nat) (c : Form) (o : zb9) (K : Int), c.w ≤ n → OkRd o K → c.w ≤ 2 ^ 30 → c.fit → K + 3 * c.w ≤ 1000000000 → TQ (fun m => za8 m o c) (fun r => OkRd r.2 (K + 3 * c.w) ∧ r.1.w ≤ c.w + 1 ∧ r.1.fit) := by
  intro n
  induction n with
  | zero => intro c o K h; have := c.w_kids; omega
  | succ n ih =>
    intro c o K h ho hb hf hK
    have hw := c.w_kids
    obtain ⟨f1, f2, f3, f4⟩ := hf.parts
    refine TQ.step (fun m => by rw [za8]) ?_
    refine TQ.ev (l1Copy_tr _ c (Nat.le_refl _) (by omega)) ?_
    refine TQ.cond (fun hc => ?_) (fun _ => ?_)
    · have hpos : 0 < c.kids.length := by simpa using hc
      have hl := Form.ws_len c.kids
      refine TQ.bind (zgQ o 2 _ ho (by omega)) (fun v hv => ?_)
      refine TQ.cond (fun _ => ?_) (fun _ => ?_)
      · refine TQ.bind (zgQ _ _ _ hv.1 (by omega)) (fun w hw2 => ?_)
        obtain ⟨h1, _, h2, _⟩ := hw2
        obtain ⟨h2, h3⟩ := h2 (by omega)
        obtain ⟨x, hx, hm⟩ := idx_int h2 h3
        have hxw := Form.ws_mem hm
        have hx2 := (zfb hx).2.2
        obtain ⟨r, hr, q1, q2, q3⟩ := ih x w.2 _ (by omega) h1 (by omega) (Form.fits_mem f4 hm) (by omega)
        refine ⟨_, Tr.idx hx (Tr.bind hr (Tr.idx hx Tr.val)), q1.mono (by omega), ?_, ?_⟩
        · have := Form.ws_set c.kids w.1.toNat r.1 1 (fun y hy => by rw [hx2] at hy; cases hy; exact q2)
          simp only [Form.w]; omega
        · rw [Form.fit]; exact ⟨f1, f2, by rw [List.length_set]; exact f3, Form.fits_set _ _ _ f4 q3⟩
      · exact (mutF_tq c _ _ hv.1 (by omega) (by omega) hf).mono (fun r hr => ⟨hr.1.mono (by omega), hr.2⟩)
    · exact (mutF_tq c _ _ ho (by omega) (by omega) hf).mono (fun r hr => ⟨hr.1.mono (by omega), hr.2⟩)
end Go.Abs
end
section
set_option linter.unusedVariables false
set_option linter.unusedSimpArgs false
namespace Go.Abs
theorem Form.fits_app : ∀ {a b : List Form}, Form.fits a → Form.fits b → Form.fits (a ++ b)
  | [], b, _, hb => hb
  | x :: a, b, ha, hb => by rw [Form.fits] at ha; rw [List.cons_append, Form.fits]; exact ⟨ha.1, Form.fits_app ha.2 hb⟩
theorem set_mid {α : Type} (d : List α) (x y : α) (zs : List α) : (d ++ x :: zs).set d.length y = (d ++ [y]) ++ zs := by
  rw [List.set_append_right _ _ (Nat.le_refl _), Nat.sub_self, List.set_cons_zero, List.append_assoc]; rfl
theorem dressLoop {L : Nat → Int → List Int → Int → List Form → Option (Form × zb9)} {fin : List Form → Form}
    (h0 : ∀ m k b p acc, L (m + 1) k b p acc = bif decide (k < (acc.length : Int)) then (idx acc k).bind fun x => (zbF m (zb9.mk b p) x).bind fun r => (idx acc k).bind fun _ => L m (k + 1) r.2.b r.2.p (acc.set k.toNat r.1) else some (fin acc, zb9.mk b p)) :
    ∀ (zs d : List Form) (o : zb9) (K : Int), (∀ x ∈ zs, ∀ (o : zb9) (K : Int), OkRd o K → K + 3 * x.w ≤ 1000000000 → TQ (fun m => zbF m o x) (fun r => OkRd r.2 (K + x.w) ∧ r.1.w ≤ 4 * x.w ∧ r.1.fit)) → OkRd o K → K + 3 * Form.ws zs ≤ 1000000000 → Form.fits d →
      TQ (fun m => L m (d.length : Int) o.b o.p (d ++ zs)) (fun r => ∃ e, r.1 = fin e ∧ Form.ws e ≤ Form.ws d + 4 * Form.ws zs ∧ Form.fits e ∧ e.length = d.length + zs.length ∧ OkRd r.2 (K + Form.ws zs))
  | [], d, o, K, _, ho, _, hd => by
    refine TQ.step (fun m => by rw [h0, List.append_nil, zah, cond_false]) (TQ.val ⟨d, rfl, by simp [Form.ws], hd, by simp, ?_⟩)
    simpa [Form.ws] using ho.mk'
  | x :: zs, d, o, K, hx, ho, hK, hd => by
    rw [Form.ws] at hK
    have hi : (d ++ x :: zs)[d.length]? = some x := by simp
    refine TQ.step (fun m => by rw [h0, ltN (by simp), cond_true, zJ hi, Option.bind_some, Int.toNat_natCast]) ?_
    refine TQ.bind (hx x (by simp) _ K ho.mk' (by omega)) (fun r hr => ?_)
    refine TQ.eq (fun m => by rw [Option.bind_some, set_mid, show (d.length : Int) + 1 = ((d ++ [r.1]).length : Int) by simp]) ?_
    refine TQ.mono (dressLoop h0 zs (d ++ [r.1]) r.2 (K + x.w) (fun y hy => hx y (by simp [hy])) hr.1 (by omega) (Form.fits_app hd (by rw [Form.fits, Form.fits]; exact ⟨hr.2.2, trivial⟩))) (fun q hq => ?_)
    obtain ⟨e, e1, e2, e3, e4, e5⟩ := hq
    refine ⟨e, e1, ?_, e3, by rw [e4]; simp; omega, e5.mono (by rw [Form.ws]; omega)⟩
    rw [Form.ws_append, Form.ws, Form.ws] at e2
    rw [Form.ws]; omega
theorem l1Dress_tq : ∀ (n : Nat) (c : Form) (o : zb9) (K : Int), c.w ≤ n → OkRd o K → c.w ≤ 2 ^ 30 → c.fit → K + 3 * c.w ≤ 1000000000 → TQ (fun m => zbF m o c) (fun r => OkRd r.2 (K + c.w) ∧ r.1.w ≤ 4 * c.w ∧ r.1.fit) := by
  intro n
  induction n with
  | zero => intro c o K h; have := c.w_kids; omega
  | succ n ih =>
    intro c o K h ho hb hf hK
    have hw := c.w_kids
    have hlen := Form.ws_len c.kids
    obtain ⟨f1, f2, f3, f4⟩ := hf.parts
    have step : ∀ x ∈ c.kids, ∀ (o : zb9) (K : Int), OkRd o K → K + 3 * x.w ≤ 1000000000 → TQ (fun m => zbF m o x) (fun r => OkRd r.2 (K + x.w) ∧ r.1.w ≤ 4 * x.w ∧ r.1.fit) := fun x hx o K ho hK => by
      have := Form.ws_mem hx
      exact ih x o K (by omega) ho (by omega) (Form.fits_mem f4 hx) hK
    refine TQ.step (fun m => by rw [zbF]) (TQ.ev (l1Copy_tr _ c (Nat.le_refl _) (by omega)) ?_)
    refine TQ.cond (fun _ => ?_) (fun _ => ?_)
    · refine TQ.bind (zgQ o _ _ ho (by omega)) (fun v hv => ?_)
      obtain ⟨h1, _, h2, _⟩ := hv
      obtain ⟨h2, h3⟩ := h2 (by decide)
      refine TQ.idx h2 h3 (fun sc hsc => ?_)
      have hsl : sc.length ≤ 3 := by
        simp only [List.mem_cons, List.not_mem_nil, or_false] at hsc
        rcases hsc with h | h | h | h | h | h | h <;> rw [h] <;> decide
      refine TQ.chk (decide_eq_true (by simp only [List.length_nil]; omega)) ?_
      have key := dressLoop (L := fun m k b p acc => zcc m c sc k b p acc) (fin := fun e => Form.mk c.kind c.name c.n (([] : List Int) ++ sc) e) (fun m k b p acc => by rw [zcc]) c.kids [] v.2 (K + 1) step h1 (by omega) (by rw [Form.fits]; trivial)
      refine TQ.mono key (fun r hr => ?_)
      obtain ⟨e, e1, e2, e3, e4, e5⟩ := hr
      simp only [Form.ws, List.length_nil, Nat.zero_add] at e2 e4
      refine ⟨e5.mono (by omega), ?_, ?_⟩
      · rw [e1]; simp only [Form.w, List.nil_append]; omega
      · rw [e1, Form.fit]; exact ⟨f1, by rw [List.nil_append]; omega, by omega, e3⟩
    · have key := dressLoop (L := fun m k b p acc => zcb m c k b p acc) (fin := fun e => Form.mk c.kind c.name c.n c.scopes e) (fun m k b p acc => by rw [zcb]) c.kids [] o K step ho (by omega) (by rw [Form.fits]; trivial)
      refine TQ.mono key (fun r hr => ?_)
      obtain ⟨e, e1, e2, e3, e4, e5⟩ := hr
      simp only [Form.ws, List.length_nil, Nat.zero_add] at e2 e4
      refine ⟨e5.mono (by omega), ?_, ?_⟩
      · rw [e1]; simp only [Form.w]; omega
      · rw [e1, Form.fit]; exact ⟨f1, f2, by omega, e3⟩
end Go.Abs
end
section
set_option linter.unusedVariables false
namespace Go.Abs
mutual
def Form.fitB : Form → Bool
  | .mk _ name _ scopes kids => decide (name.size ≤ 100) && (decide (scopes.length ≤ 100) && (decide (kids.length ≤ 100) && Form.fitBs kids))
def Form.fitBs : List Form → Bool
  | [] => true
  | f :: fs => f.fitB && Form.fitBs fs
end
mutual
theorem Form.fitB_fit : ∀ {f : Form}, f.fitB = true → f.fit
  | .mk a b c d e, h => by
    rw [Form.fitB] at h
    simp only [Bool.and_eq_true, decide_eq_true_eq] at h
    rw [Form.fit]
    exact ⟨by omega, by omega, by omega, Form.fitBs_fit h.2.2.2⟩
theorem Form.fitBs_fit : ∀ {l : List Form}, Form.fitBs l = true → Form.fits l
  | [], _ => by rw [Form.fits]; trivial
  | f :: fs, h => by
    rw [Form.fitBs, Bool.and_eq_true] at h
    rw [Form.fits]; exact ⟨Form.fitB_fit h.1, Form.fitBs_fit h.2⟩
end
structure zc4 (s : ByteArray) (f : Form) : Prop where
  tr : Tr (fun m => zec m s) f
  w : f.w ≤ 100
  fit : f.fit
def Pairs : List (Form × Form) → List (List ByteArray) → Prop
  | [], l => l = []
  | p :: ps, l => ∃ x xs, l = x :: xs ∧ (∃ a b, x = [a, b] ∧ zc4 a p.1 ∧ zc4 b p.2) ∧ Pairs ps xs
theorem Pairs.mem : ∀ {ps : List (Form × Form)} {l : List (List ByteArray)}, Pairs ps l → ∀ x ∈ l, ∃ p ∈ ps, ∃ a b, x = [a, b] ∧ zc4 a p.1 ∧ zc4 b p.2
  | [], l, h, x, hx => by rw [Pairs] at h; subst h; cases hx
  | p :: ps, l, h, x, hx => by
    rw [Pairs] at h
    obtain ⟨y, ys, rfl, h1, h2⟩ := h
    rcases List.mem_cons.1 hx with rfl | hx
    · exact ⟨p, by simp, h1⟩
    · obtain ⟨q, hq, r⟩ := Pairs.mem h2 x hx
      exact ⟨q, by simp [hq], r⟩
end Go.Abs
end
