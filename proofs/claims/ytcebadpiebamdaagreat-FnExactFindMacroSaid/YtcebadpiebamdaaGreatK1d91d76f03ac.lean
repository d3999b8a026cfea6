/- A part of the proof: what the functions that the law calls answer, as pure values. -/
import Derived.Test.YtcebadpiebamdaaGreatK3c12e1c5a40a
set_option linter.unusedSimpArgs false
set_option linter.unusedVariables false
section
set_option linter.unusedVariables false
namespace Go.Abs
def Tr {α : Type} (F : Nat → Option α) (v : α) : Prop := ∃ n, ∀ m, n ≤ m → F m = some v
theorem Tr.val {α : Type} {v : α} : Tr (fun _ => some v) v := ⟨0, fun _ _ => rfl⟩
theorem Tr.of {α : Type} {F : Nat → Option α} {v : α} (h : ∀ m, F m = some v) : Tr F v := ⟨0, fun m _ => h m⟩
theorem Tr.bind {α β : Type} {f : Nat → Option α} {g : α → Nat → Option β} {v : α} {w : β} (h1 : Tr f v) (h2 : Tr (fun m => g v m) w) : Tr (fun m => (f m).bind fun x => g x m) w := by
  obtain ⟨n1, h1⟩ := h1
  obtain ⟨n2, h2⟩ := h2
  refine ⟨n1 + n2, fun m hm => ?_⟩
  show (f m).bind _ = _
  rw [h1 m (by omega)]
  exact h2 m (by omega)
theorem Tr.step {α : Type} {F G : Nat → Option α} {v : α} (h : ∀ m, F (m + 1) = G m) (hg : Tr G v) : Tr F v := by
  obtain ⟨n, hg⟩ := hg
  refine ⟨n + 1, fun m hm => ?_⟩
  obtain ⟨k, rfl⟩ : ∃ k, m = k + 1 := ⟨m - 1, by omega⟩
  rw [h, hg k (by omega)]
theorem Tr.eq {α : Type} {F G : Nat → Option α} {v : α} (h : ∀ m, F m = G m) (hg : Tr G v) : Tr F v := by
  obtain ⟨n, hg⟩ := hg
  exact ⟨n, fun m hm => by rw [h, hg m hm]⟩
theorem Tr.tt {α : Type} {F G : Nat → Option α} {b : Bool} {v : α} (hb : b = true) (h : Tr F v) : Tr (fun m => bif b then F m else G m) v := by subst hb; exact h
theorem Tr.ff {α : Type} {F G : Nat → Option α} {b : Bool} {v : α} (hb : b = false) (h : Tr G v) : Tr (fun m => bif b then F m else G m) v := by subst hb; exact h
theorem Tr.chk {α : Type} {F : Nat → Option α} {b : Bool} {v : α} (hb : b = true) (h : Tr F v) : Tr (fun m => Abs.chk b (F m)) v := by subst hb; exact h
theorem Tr.idx {α β : Type} {l : List α} {i : Int} {x : α} {g : α → Nat → Option β} {w : β} (hx : idx l i = some x) (h : Tr (fun m => g x m) w) : Tr (fun m => (Abs.idx l i).bind fun y => g y m) w := by
  rw [hx]; exact h
theorem Tr.get {α : Type} {F : Nat → Option α} {v : α} (h : Tr F v) : ∃ n, F n = some v := by
  obtain ⟨n, h⟩ := h; exact ⟨n, h n (Nat.le_refl n)⟩
theorem zP {α : Type} {l : List α} {k : Nat} {x : α} (h : l[k]? = some x) : idx l (k : Int) = some x := by
  unfold idx
  simp [h]
theorem idx_int {α : Type} {l : List α} {i : Int} (h0 : 0 ≤ i) (h1 : i < l.length) : ∃ x, idx l i = some x ∧ x ∈ l := by
  obtain ⟨k, rfl⟩ := Int.eq_ofNat_of_zero_le h0
  have hk : k < l.length := by omega
  exact ⟨l[k], zP (List.getElem?_eq_getElem hk), List.getElem_mem hk⟩
theorem zae {α : Type} (l : List α) (motive : Nat → List α → Prop) (nil : motive l.length [])
    (cons : ∀ k x xs, k < l.length → l[k]? = some x → l.drop k = x :: xs → motive (k + 1) xs → motive k (x :: xs)) : ∀ k, k ≤ l.length → motive k (l.drop k) := by
  have key : ∀ n k, l.length - k = n → k ≤ l.length → motive k (l.drop k) := by
    intro n
    induction n with
    | zero =>
      intro k hk hle
      have : k = l.length := by omega
      subst this
      rw [List.drop_length]; exact nil
    | succ n ih =>
      intro k hk hle
      have hlt : k < l.length := by omega
      have := ih (k + 1) (by omega) (by omega)
      rw [List.drop_eq_getElem_cons hlt]
      exact cons k _ _ hlt (List.getElem?_eq_getElem hlt) (List.drop_eq_getElem_cons hlt) this
  exact fun k hk => key _ k rfl hk
theorem ltN {k n : Nat} (h : k < n) : decide ((k : Int) < (n : Int)) = true := by simpa using h
theorem zac {n : Nat} : decide ((n : Int) < (n : Int)) = false := by simp
theorem zcJ (k : Nat) : (k : Int) + 1 = ((k + 1 : Nat) : Int) := by simp
theorem zcI {n : Int} (h : -9223372036854775808 ≤ n ∧ n ≤ 9223372036854775807) : w64 n = n := IntWalk.i64_in n (by omega)
def TQ {α : Type} (F : Nat → Option α) (Q : α → Prop) : Prop := ∃ r, Tr F r ∧ Q r
theorem TQ.val {α : Type} {v : α} {Q : α → Prop} (h : Q v) : TQ (fun _ => some v) Q := ⟨v, Tr.val, h⟩
theorem TQ.bind {α β : Type} {f : Nat → Option α} {g : α → Nat → Option β} {Q : α → Prop} {R : β → Prop} (h1 : TQ f Q) (h2 : ∀ v, Q v → TQ (fun m => g v m) R) : TQ (fun m => (f m).bind fun x => g x m) R := by
  obtain ⟨v, h1, hq⟩ := h1
  obtain ⟨w, h2, hr⟩ := h2 v hq
  exact ⟨w, h1.bind h2, hr⟩
theorem TQ.ev {α β : Type} {f : Nat → Option α} {g : α → Nat → Option β} {v : α} {R : β → Prop} (h1 : Tr f v) (h2 : TQ (fun m => g v m) R) : TQ (fun m => (f m).bind fun x => g x m) R := by
  obtain ⟨w, h2, hr⟩ := h2
  exact ⟨w, h1.bind h2, hr⟩
theorem TQ.step {α : Type} {F G : Nat → Option α} {Q : α → Prop} (h : ∀ m, F (m + 1) = G m) (hg : TQ G Q) : TQ F Q := by
  obtain ⟨v, h1, hq⟩ := hg
  exact ⟨v, Tr.step h h1, hq⟩
theorem TQ.eq {α : Type} {F G : Nat → Option α} {Q : α → Prop} (h : ∀ m, F m = G m) (hg : TQ G Q) : TQ F Q := by
  obtain ⟨v, h1, hq⟩ := hg
  exact ⟨v, Tr.eq h h1, hq⟩
theorem TQ.cond {α : Type} {F G : Nat → Option α} {b : Bool} {Q : α → Prop} (h1 : b = true → TQ F Q) (h2 : b = false → TQ G Q) : TQ (fun m => bif b then F m else G m) Q := by
  cases b
  · exact h2 rfl
  · exact h1 rfl
theorem TQ.chk {α : Type} {F : Nat → Option α} {b : Bool} {Q : α → Prop} (hb : b = true) (h : TQ F Q) : TQ (fun m => Abs.chk b (F m)) Q := by subst hb; exact h
theorem TQ.idx {α β : Type} {l : List α} {i : Int} {g : α → Nat → Option β} {R : β → Prop} (h0 : 0 ≤ i) (h1 : i < l.length) (h : ∀ x, x ∈ l → TQ (fun m => g x m) R) : TQ (fun m => (Abs.idx l i).bind fun y => g y m) R := by
  obtain ⟨x, hx, hm⟩ := idx_int h0 h1
  obtain ⟨w, hw, hr⟩ := h x hm
  exact ⟨w, Tr.idx hx hw, hr⟩
theorem TQ.mono {α : Type} {F : Nat → Option α} {Q R : α → Prop} (h : TQ F Q) (hq : ∀ v, Q v → R v) : TQ F R := by
  obtain ⟨v, h1, h2⟩ := h; exact ⟨v, h1, hq v h2⟩
mutual
def Form.w : Form → Nat
  | .mk _ _ _ scopes kids => 1 + scopes.length + Form.ws kids
def Form.ws : List Form → Nat
  | [] => 0
  | f :: fs => 1 + f.w + Form.ws fs
end
mutual
def Core.w : Core → Nat
  | .mk _ _ _ _ ids data kids => 1 + ids.length + data.w + Core.ws kids
def Core.ws : List Core → Nat
  | [] => 0
  | f :: fs => 1 + f.w + Core.ws fs
end
theorem Form.ws_len : ∀ (l : List Form), l.length ≤ Form.ws l
  | [] => by simp
  | f :: fs => by have := Form.ws_len fs; rw [Form.ws, List.length_cons]; omega
theorem Core.ws_len : ∀ (l : List Core), l.length ≤ Core.ws l
  | [] => by simp
  | f :: fs => by have := Core.ws_len fs; rw [Core.ws, List.length_cons]; omega
theorem Form.ws_mem : ∀ {l : List Form} {x : Form}, x ∈ l → x.w < Form.ws l
  | f :: fs, x, h => by
    rw [Form.ws]
    rcases List.mem_cons.1 h with rfl | h
    · omega
    · have := Form.ws_mem h; omega
theorem Core.ws_mem : ∀ {l : List Core} {x : Core}, x ∈ l → x.w < Core.ws l
  | f :: fs, x, h => by
    rw [Core.ws]
    rcases List.mem_cons.1 h with rfl | h
    · omega
    · have := Core.ws_mem h; omega
theorem Form.w_kids (f : Form) : Form.ws f.kids + f.scopes.length + 1 = f.w := by obtain ⟨a, b, c, d, e⟩ := f; simp only [Form.w, Form.kids, Form.scopes]; omega
theorem Core.w_kids (f : Core) : Core.ws f.kids + f.ids.length + f.data.w + 1 = f.w := by obtain ⟨a, b, c, d, e, g, h⟩ := f; simp only [Core.w, Core.kids, Core.ids, Core.data]; omega
structure OkRd (r : l15Rd) (K : Int) : Prop where
  len : r.b.length ≤ 2000
  byte : ∀ x ∈ r.b, 0 ≤ x ∧ x < 256
  lo : 0 ≤ r.p
  hi : r.p ≤ K
theorem OkRd.mono {r : l15Rd} {K K' : Int} (h : OkRd r K) (hk : K ≤ K') : OkRd r K' := ⟨h.len, h.byte, h.lo, by have := h.hi; omega⟩
end Go.Abs
end
