/- A part of the proof: what the functions that the law calls answer, as pure values. -/
import Derived.Lib.SlicesCompact
import Derived.Lib.SplitLaws
import Derived.Test.YtpmhanibecniaaaDoorK0c2fee0c4f9f
import Derived.Test.YtpmhanibecniaaaDoorK343b1103bcc9
set_option linter.unusedSimpArgs false
set_option linter.unusedVariables false
section
set_option linter.unusedVariables false
namespace Go.Abs
def Tr {α : Type} (F : Nat → Option α) (v : α) : Prop := ∃ n, ∀ m, n ≤ m → F m = some v
theorem Tr.val {α : Type} {v : α} : Tr (fun _ => some v) v := ⟨0, fun _ _ => rfl⟩
theorem Tr.of {α : Type} {F : Nat → Option α} {v : α} (h : ∀ m, F m = some v) : Tr F v := ⟨0, fun m _ => h m⟩
theorem Tr.bind {α β : Type} {f : Nat → Option α} {g : α → Nat → Option β} {v : α} {w : β} (h1 : Tr f v) (h2 : Tr (fun m => g v m) w) : Tr (fun m => (f m).bind fun x => g x m) w := by
  obtain ⟨n1, h1⟩ := h1
  obtain ⟨n2, h2⟩ := h2
  refine ⟨n1 + n2, fun m hm => ?_⟩
  show (f m).bind _ = _
  rw [h1 m (by omega)]
  exact h2 m (by omega)
theorem Tr.step {α : Type} {F G : Nat → Option α} {v : α} (h : ∀ m, F (m + 1) = G m) (hg : Tr G v) : Tr F v := by
  obtain ⟨n, hg⟩ := hg
  refine ⟨n + 1, fun m hm => ?_⟩
  obtain ⟨k, rfl⟩ : ∃ k, m = k + 1 := ⟨m - 1, by omega⟩
  rw [h, hg k (by omega)]
theorem Tr.eq {α : Type} {F G : Nat → Option α} {v : α} (h : ∀ m, F m = G m) (hg : Tr G v) : Tr F v := by
  obtain ⟨n, hg⟩ := hg
  exact ⟨n, fun m hm => by rw [h, hg m hm]⟩
theorem Tr.tt {α : Type} {F G : Nat → Option α} {b : Bool} {v : α} (hb : b = true) (h : Tr F v) : Tr (fun m => bif b then F m else G m) v := by subst hb; exact h
theorem Tr.ff {α : Type} {F G : Nat → Option α} {b : Bool} {v : α} (hb : b = false) (h : Tr G v) : Tr (fun m => bif b then F m else G m) v := by subst hb; exact h
theorem Tr.chk {α : Type} {F : Nat → Option α} {b : Bool} {v : α} (hb : b = true) (h : Tr F v) : Tr (fun m => Abs.chk b (F m)) v := by subst hb; exact h
theorem Tr.idx {α β : Type} {l : List α} {i : Int} {x : α} {g : α → Nat → Option β} {w : β} (hx : idx l i = some x) (h : Tr (fun m => g x m) w) : Tr (fun m => (Abs.idx l i).bind fun y => g y m) w := by
  rw [hx]; exact h
theorem Tr.get {α : Type} {F : Nat → Option α} {v : α} (h : Tr F v) : ∃ n, F n = some v := by
  obtain ⟨n, h⟩ := h; exact ⟨n, h n (Nat.le_refl n)⟩
theorem idx_nat {α : Type} {l : List α} {k : Nat} {x : α} (h : l[k]? = some x) : idx l (k : Int) = some x := by
  unfold idx
  simp [h]
theorem idx_int {α : Type} {l : List α} {i : Int} (h0 : 0 ≤ i) (h1 : i < l.length) : ∃ x, idx l i = some x ∧ x ∈ l := by
  obtain ⟨k, rfl⟩ := Int.eq_ofNat_of_zero_le h0
  have hk : k < l.length := by omega
  exact ⟨l[k], idx_nat (List.getElem?_eq_getElem hk), List.getElem_mem hk⟩
theorem drop_ind {α : Type} (l : List α) (motive : Nat → List α → Prop) (nil : motive l.length [])
    (cons : ∀ k x xs, k < l.length → l[k]? = some x → l.drop k = x :: xs → motive (k + 1) xs → motive k (x :: xs)) : ∀ k, k ≤ l.length → motive k (l.drop k) := by
  have key : ∀ n k, l.length - k = n → k ≤ l.length → motive k (l.drop k) := by
    intro n
    induction n with
    | zero =>
      intro k hk hle
      have : k = l.length := by omega
      subst this
      rw [List.drop_length]; exact nil
    | succ n ih =>
      intro k hk hle
      have hlt : k < l.length := by omega
      have := ih (k + 1) (by omega) (by omega)
      rw [List.drop_eq_getElem_cons hlt]
      exact cons k _ _ hlt (List.getElem?_eq_getElem hlt) (List.drop_eq_getElem_cons hlt) this
  exact fun k hk => key _ k rfl hk
theorem ltN {k n : Nat} (h : k < n) : decide ((k : Int) < (n : Int)) = true := by simpa using h
theorem ltN_self {n : Nat} : decide ((n : Int) < (n : Int)) = false := by simp
theorem succN (k : Nat) : (k : Int) + 1 = ((k + 1 : Nat) : Int) := by simp
theorem w64_in {n : Int} (h : -9223372036854775808 ≤ n ∧ n ≤ 9223372036854775807) : w64 n = n := IntWalk.i64_in n (by omega)
def TQ {α : Type} (F : Nat → Option α) (Q : α → Prop) : Prop := ∃ r, Tr F r ∧ Q r
theorem TQ.val {α : Type} {v : α} {Q : α → Prop} (h : Q v) : TQ (fun _ => some v) Q := ⟨v, Tr.val, h⟩
theorem TQ.bind {α β : Type} {f : Nat → Option α} {g : α → Nat → Option β} {Q : α → Prop} {R : β → Prop} (h1 : TQ f Q) (h2 : ∀ v, Q v → TQ (fun m => g v m) R) : TQ (fun m => (f m).bind fun x => g x m) R := by
  obtain ⟨v, h1, hq⟩ := h1
  obtain ⟨w, h2, hr⟩ := h2 v hq
  exact ⟨w, h1.bind h2, hr⟩
theorem TQ.ev {α β : Type} {f : Nat → Option α} {g : α → Nat → Option β} {v : α} {R : β → Prop} (h1 : Tr f v) (h2 : TQ (fun m => g v m) R) : TQ (fun m => (f m).bind fun x => g x m) R := by
  obtain ⟨w, h2, hr⟩ := h2
  exact ⟨w, h1.bind h2, hr⟩
theorem TQ.step {α : Type} {F G : Nat → Option α} {Q : α → Prop} (h : ∀ m, F (m + 1) = G m) (hg : TQ G Q) : TQ F Q := by
  obtain ⟨v, h1, hq⟩ := hg
  exact ⟨v, Tr.step h h1, hq⟩
theorem TQ.eq {α : Type} {F G : Nat → Option α} {Q : α → Prop} (h : ∀ m, F m = G m) (hg : TQ G Q) : TQ F Q := by
  obtain ⟨v, h1, hq⟩ := hg
  exact ⟨v, Tr.eq h h1, hq⟩
theorem TQ.cond {α : Type} {F G : Nat → Option α} {b : Bool} {Q : α → Prop} (h1 : b = true → TQ F Q) (h2 : b = false → TQ G Q) : TQ (fun m => bif b then F m else G m) Q := by
  cases b
  · exact h2 rfl
  · exact h1 rfl
theorem TQ.chk {α : Type} {F : Nat → Option α} {b : Bool} {Q : α → Prop} (hb : b = true) (h : TQ F Q) : TQ (fun m => Abs.chk b (F m)) Q := by subst hb; exact h
theorem TQ.idx {α β : Type} {l : List α} {i : Int} {g : α → Nat → Option β} {R : β → Prop} (h0 : 0 ≤ i) (h1 : i < l.length) (h : ∀ x, x ∈ l → TQ (fun m => g x m) R) : TQ (fun m => (Abs.idx l i).bind fun y => g y m) R := by
  obtain ⟨x, hx, hm⟩ := idx_int h0 h1
  obtain ⟨w, hw, hr⟩ := h x hm
  exact ⟨w, Tr.idx hx hw, hr⟩
theorem TQ.mono {α : Type} {F : Nat → Option α} {Q R : α → Prop} (h : TQ F Q) (hq : ∀ v, Q v → R v) : TQ F R := by
  obtain ⟨v, h1, h2⟩ := h; exact ⟨v, h1, hq v h2⟩
mutual
def Form.w : Form → Nat
  | .mk _ _ _ scopes kids => 1 + scopes.length + Form.ws kids
def Form.ws : List Form → Nat
  | [] => 0
  | f :: fs => 1 + f.w + Form.ws fs
end
mutual
def Core.w : Core → Nat
  | .mk _ _ _ _ ids data kids => 1 + ids.length + data.w + Core.ws kids
def Core.ws : List Core → Nat
  | [] => 0
  | f :: fs => 1 + f.w + Core.ws fs
end
theorem Form.ws_len : ∀ (l : List Form), l.length ≤ Form.ws l
  | [] => by simp
  | f :: fs => by have := Form.ws_len fs; rw [Form.ws, List.length_cons]; omega
theorem Core.ws_len : ∀ (l : List Core), l.length ≤ Core.ws l
  | [] => by simp
  | f :: fs => by have := Core.ws_len fs; rw [Core.ws, List.length_cons]; omega
theorem Form.ws_mem : ∀ {l : List Form} {x : Form}, x ∈ l → x.w < Form.ws l
  | f :: fs, x, h => by
    rw [Form.ws]
    rcases List.mem_cons.1 h with rfl | h
    · omega
    · have := Form.ws_mem h; omega
theorem Core.ws_mem : ∀ {l : List Core} {x : Core}, x ∈ l → x.w < Core.ws l
  | f :: fs, x, h => by
    rw [Core.ws]
    rcases List.mem_cons.1 h with rfl | h
    · omega
    · have := Core.ws_mem h; omega
theorem Form.ws_append (a b : List Form) : Form.ws (a ++ b) = Form.ws a + Form.ws b := by
  induction a with
  | nil => simp [Form.ws]
  | cons x a ih => rw [List.cons_append, Form.ws, Form.ws, ih]; omega
theorem Core.ws_append (a b : List Core) : Core.ws (a ++ b) = Core.ws a + Core.ws b := by
  induction a with
  | nil => simp [Core.ws]
  | cons x a ih => rw [List.cons_append, Core.ws, Core.ws, ih]; omega
theorem Form.w_kids (f : Form) : Form.ws f.kids + f.scopes.length + 1 = f.w := by obtain ⟨a, b, c, d, e⟩ := f; simp only [Form.w, Form.kids, Form.scopes]; omega
theorem Core.w_kids (f : Core) : Core.ws f.kids + f.ids.length + f.data.w + 1 = f.w := by obtain ⟨a, b, c, d, e, g, h⟩ := f; simp only [Core.w, Core.kids, Core.ids, Core.data]; omega
structure OkRd (r : l15Rd) (K : Int) : Prop where
  len : r.b.length ≤ 2000
  byte : ∀ x ∈ r.b, 0 ≤ x ∧ x < 256
  lo : 0 ≤ r.p
  hi : r.p ≤ K
theorem OkRd.mono {r : l15Rd} {K K' : Int} (h : OkRd r K) (hk : K ≤ K') : OkRd r K' := ⟨h.len, h.byte, h.lo, by have := h.hi; omega⟩
theorem OkRd.mk' {r : l15Rd} {K : Int} (h : OkRd r K) : OkRd (l15Rd.mk r.b r.p) K := h
end Go.Abs
end
section
section
set_option linter.unusedVariables false
set_option linter.unusedSimpArgs false
namespace Go.Abs
noncomputable def same {α : Type} (a b : α) : Bool := @decide (a = b) (Classical.propDecidable _)
def alls {α : Type} (D : α → Bool) : List α → Bool
  | [] => true
  | x :: xs => D x && alls D xs
theorem alls_iff {α : Type} {D : α → Bool} : ∀ {l : List α}, alls D l = true ↔ ∀ x ∈ l, D x = true
  | [] => by simp [alls]
  | x :: xs => by rw [alls, Bool.and_eq_true, alls_iff]; simp
end Go.Abs
end
section
set_option linter.unusedVariables false
set_option linter.unusedSimpArgs false
namespace Go.Abs
mutual
def Hit.w : Hit → Nat
  | .mk name _ one many => 1 + name.w + one.w + Hit.ws many
def Hit.ws : List Hit → Nat
  | [] => 0
  | f :: fs => 1 + f.w + Hit.ws fs
end
theorem Hit.ws_len : ∀ (l : List Hit), l.length ≤ Hit.ws l
  | [] => by simp
  | f :: fs => by have := Hit.ws_len fs; rw [Hit.ws, List.length_cons]; omega
theorem Hit.ws_mem : ∀ {l : List Hit} {x : Hit}, x ∈ l → x.w < Hit.ws l
  | f :: fs, x, h => by
    rw [Hit.ws]
    rcases List.mem_cons.1 h with rfl | h
    · omega
    · have := Hit.ws_mem h; omega
theorem Form.w_pos (f : Form) : 1 ≤ f.w := by have := f.w_kids; omega
end Go.Abs
end
section
set_option linter.unusedVariables false
set_option linter.unusedSimpArgs false
namespace Go.Abs
mutual
def Form.fit : Form → Prop
  | .mk _ name _ scopes kids => name.size ≤ 9223372036854775807 ∧ scopes.length ≤ 9223372036854775807 ∧ kids.length ≤ 9223372036854775807 ∧ Form.fits kids
def Form.fits : List Form → Prop
  | [] => True
  | f :: fs => f.fit ∧ Form.fits fs
end
mutual
def Hit.fit : Hit → Prop
  | .mk name _ one many => name.fit ∧ one.fit ∧ many.length ≤ 9223372036854775807 ∧ Hit.fits many
def Hit.fits : List Hit → Prop
  | [] => True
  | f :: fs => f.fit ∧ Hit.fits fs
end
theorem Form.fits_mem : ∀ {l : List Form} {x : Form}, Form.fits l → x ∈ l → x.fit
  | f :: fs, x, h, hx => by
    rw [Form.fits] at h
    rcases List.mem_cons.1 hx with rfl | hx
    · exact h.1
    · exact Form.fits_mem h.2 hx
theorem Hit.fits_mem : ∀ {l : List Hit} {x : Hit}, Hit.fits l → x ∈ l → x.fit
  | f :: fs, x, h, hx => by
    rw [Hit.fits] at h
    rcases List.mem_cons.1 hx with rfl | hx
    · exact h.1
    · exact Hit.fits_mem h.2 hx
theorem Form.fit.parts {f : Form} (h : f.fit) : f.name.size ≤ 9223372036854775807 ∧ f.scopes.length ≤ 9223372036854775807 ∧ f.kids.length ≤ 9223372036854775807 ∧ Form.fits f.kids := by
  obtain ⟨a, b, c, d, e⟩ := f; rw [Form.fit] at h; exact h
theorem Hit.fit.parts {f : Hit} (h : f.fit) : f.name.fit ∧ f.one.fit ∧ f.many.length ≤ 9223372036854775807 ∧ Hit.fits f.many := by
  obtain ⟨a, b, c, d⟩ := f; rw [Hit.fit] at h; exact h
end Go.Abs
end
section
set_option linter.unusedVariables false
set_option linter.unusedSimpArgs false
namespace Go.Abs
def letterB (c : Int) (first : Bool) : Bool := (decide (97 ≤ c) && decide (c ≤ 122)) || (decide (c = 42) || (decide (c = 63) || (decide (c = 61) || (decide (c = 43) || (decide (c = 60) || (!first && ((decide (48 ≤ c) && decide (c ≤ 57)) || decide (c = 45))))))))
theorem l1Letter_tr (c : Int) (first : Bool) : Tr (fun m => m_spec_l1Letter m c first) (letterB c first) := by
  refine Tr.of (fun m => ?_)
  unfold m_spec_l1Letter letterB
  cases decide (97 ≤ c) <;> cases decide (c ≤ 122) <;> cases decide (c = 42) <;> cases decide (c = 63) <;> cases decide (c = 61) <;> cases decide (c = 43) <;> cases decide (c = 60) <;> cases first <;> cases decide (48 ≤ c) <;> cases decide (c ≤ 57) <;> rfl
def nmF : Nat → List UInt8 → Bool
  | _, [] => true
  | k, x :: xs => letterB (x.toNat : Int) (decide ((k : Int) = 0)) && nmF (k + 1) xs
def nmSz (s : ByteArray) : Bool := decide (1 ≤ (s.size : Int)) && decide ((s.size : Int) ≤ 12)
def nmOk (s : ByteArray) : Bool := decide (s = (⟨#[46, 46, 46]⟩ : ByteArray)) || (decide (s = (⟨#[95]⟩ : ByteArray)) || (nmF 0 s.data.toList && nmSz s))
theorem sz_list (s : ByteArray) : s.size = s.data.toList.length := by rw [ByteArray.size]; simp
theorem bidx_nat {s : ByteArray} {k : Nat} {x : UInt8} (h : s.data.toList[k]? = some x) : bidx s (k : Int) = some (x.toNat : Int) := by
  have hk : k < s.size := by rw [sz_list]; exact (List.getElem?_eq_some_iff.1 h).1
  unfold bidx
  rw [show (decide ((0 : Int) ≤ k) && decide ((k : Int) < s.size)) = true by simp; omega, cond_true]
  rw [Int.toNat_natCast, byteAt, List.getD_eq_getElem?_getD, h]; rfl
theorem bif_and (a b : Bool) : (bif a then some b else some false) = some (a && b) := by cases a <;> rfl
theorem specNm_tr (s : ByteArray) : Tr (fun m => m_spec_NameValid m s) (nmOk s) := by
  refine Tr.eq (fun m => by unfold m_spec_NameValid; rfl) ?_
  unfold nmOk
  cases decide (s = (⟨#[46, 46, 46]⟩ : ByteArray)) with
  | true => exact Tr.tt rfl Tr.val
  | false =>
  refine Tr.ff rfl ?_
  cases decide (s = (⟨#[95]⟩ : ByteArray)) with
  | true => exact Tr.tt rfl Tr.val
  | false =>
  refine Tr.ff rfl ?_
  have hs := sz_list s
  have key := drop_ind s.data.toList (fun k zs => Tr (fun m => m_spec_NameValid_l1 m s (k : Int)) (nmF k zs && nmSz s)) ?_ ?_ 0 (Nat.zero_le _)
  · simpa using key
  · refine Tr.step (fun m => by rw [m_spec_NameValid_l1, hs, ltN_self, cond_false, ← hs]) (Tr.of fun m => ?_)
    rw [bif_and]; rfl
  · intro k x zs hk hx hd ih
    refine Tr.step (fun m => by rw [m_spec_NameValid_l1, ltN (show k < s.size by omega), cond_true]) ?_
    by_cases h12 : k ≤ 12
    · refine Tr.tt (decide_eq_true (by omega)) (Tr.eq (fun m => by rw [bidx_nat hx, Option.bind_some, w64_in (by omega), succN]) ?_)
      refine Tr.bind (l1Letter_tr _ _) ?_
      rw [nmF]
      cases letterB (x.toNat : Int) (decide ((k : Int) = 0)) with
      | false => exact Tr.tt rfl Tr.val
      | true => exact Tr.ff rfl (by simpa using ih)
    · refine Tr.ff (decide_eq_false (by omega)) (Tr.of fun m => ?_)
      have : nmSz s = false := by unfold nmSz; rw [decide_eq_false (show ¬ (s.size : Int) ≤ 12 by omega), Bool.and_false]
      rw [bif_and, this, Bool.and_false]
      rw [decide_eq_false (show ¬ (s.size : Int) ≤ 12 by omega), Bool.and_false]
theorem within_tr (x lo hi : Int) : Tr (fun m => m_impl_within m x lo hi) (decide (lo ≤ x) && decide (x ≤ hi)) :=
  Tr.of (fun m => by unfold m_impl_within; rw [bif_and])
theorem star_eq (x : UInt8) : decide (0 ≤ Lib.indexByte [42, 63, 61, 43, 60] ((x.toNat : Int).toNat.toUInt8)) = (decide ((x.toNat : Int) = 42) || (decide ((x.toNat : Int) = 63) || (decide ((x.toNat : Int) = 61) || (decide ((x.toNat : Int) = 43) || decide ((x.toNat : Int) = 60))))) := by
  have hx : ((x.toNat : Int).toNat.toUInt8) = x := by rw [Int.toNat_natCast]; exact UInt8.ofNat_toNat
  rw [hx]
  show decide (0 ≤ Lib.indexByte [42, 63, 61, 43, 60] x) = _
  by_cases h1 : x = 42
  · subst h1; decide
  by_cases h2 : x = 63
  · subst h2; decide
  by_cases h3 : x = 61
  · subst h3; decide
  by_cases h4 : x = 43
  · subst h4; decide
  by_cases h5 : x = 60
  · subst h5; decide
  have ne : ∀ (y : UInt8) (z : Int), (y.toNat : Int) = z → x ≠ y → ¬ ((x.toNat : Int) = z) := fun y z hz hy e => hy (UInt8.toNat_inj.1 (by omega))
  have e : Lib.indexByte [42, 63, 61, 43, 60] x = -1 := by
    simp [Lib.indexByte, Ne.symm h1, Ne.symm h2, Ne.symm h3, Ne.symm h4, Ne.symm h5, beq_eq_false_iff_ne]
  rw [e, decide_eq_false (ne 42 42 rfl h1), decide_eq_false (ne 63 63 rfl h2), decide_eq_false (ne 61 61 rfl h3), decide_eq_false (ne 43 43 rfl h4), decide_eq_false (ne 60 60 rfl h5)]
  rfl
theorem implNm_tr (s : ByteArray) (hs : s.size ≤ 9223372036854775807) : Tr (fun m => m_impl_NameValid m s) (nmOk s) := by
  refine Tr.eq (fun m => by unfold m_impl_NameValid; rfl) ?_
  unfold nmOk
  cases decide (s = (⟨#[46, 46, 46]⟩ : ByteArray)) with
  | true => exact Tr.tt rfl Tr.val
  | false =>
  refine Tr.ff rfl ?_
  cases decide (s = (⟨#[95]⟩ : ByteArray)) with
  | true => exact Tr.tt rfl Tr.val
  | false =>
  refine Tr.ff rfl ?_
  have hsz := sz_list s
  have key := drop_ind s.data.toList (fun k zs => Tr (fun m => m_impl_NameValid_l1 m s (k : Int)) (nmF k zs && nmSz s)) ?_ ?_ 0 (Nat.zero_le _)
  · simpa using key
  · refine Tr.step (fun m => by rw [m_impl_NameValid_l1, hsz, ltN_self, cond_false, ← hsz]) ?_
    refine Tr.bind (within_tr _ _ _) Tr.val
  · intro k x zs hk hx hd ih
    refine Tr.step (fun m => by rw [m_impl_NameValid_l1, ltN (show k < s.size by omega), cond_true, bidx_nat hx, Option.bind_some, w64_in (by omega), succN]) ?_
    simp only [m_strings_IndexByte, Option.bind_some, star_eq]
    rw [nmF]
    unfold letterB
    have hp : decide (0 < (k : Int)) = !decide ((k : Int) = 0) := by
      rw [Bool.eq_iff_iff, Bool.not_eq_true', decide_eq_true_iff, decide_eq_false_iff_not]; omega
    rw [hp]
    rw [Bool.and_assoc]
    generalize hR : (nmF (k + 1) zs && nmSz s) = R at ih ⊢
    generalize decide (97 ≤ (x.toNat : Int)) = b1
    generalize decide ((x.toNat : Int) ≤ 122) = b2
    generalize decide ((x.toNat : Int) = 42) = c1
    generalize decide ((x.toNat : Int) = 63) = c2
    generalize decide ((x.toNat : Int) = 61) = c3
    generalize decide ((x.toNat : Int) = 43) = c4
    generalize decide ((x.toNat : Int) = 60) = c5
    generalize decide ((k : Int) = 0) = z
    generalize decide (48 ≤ (x.toNat : Int)) = b3
    generalize decide ((x.toNat : Int) ≤ 57) = b4
    generalize decide ((x.toNat : Int) = 45) = b5
    have hc : ∀ a b c d e w : Bool, (a || (b || (c || (d || (e || w))))) = ((a || (b || (c || (d || e)))) || w) := by decide
    rw [hc c1 c2 c3 c4 c5]
    generalize (c1 || (c2 || (c3 || (c4 || c5)))) = st
    cases b1 <;> cases b2 <;> cases st <;> cases z <;> cases b3 <;> cases b4 <;> cases b5 <;> first | exact Tr.val | exact ih
def gtP : Option Int → Int → Bool
  | none, _ => true
  | some q, x => decide (q < x)
def scF : Option Int → List Int → Bool
  | _, [] => true
  | p, x :: xs => (decide (1 ≤ x) && decide (x ≤ 99)) && (gtP p x && scF (some x) xs)
def prevAt (l : List Int) : Nat → Option Int
  | 0 => none
  | j + 1 => l[j]?
def scOk (l : List Int) : Bool := scF none l && decide ((l.length : Int) ≤ 24)
theorem prev_succ {l : List Int} {k : Nat} {x : Int} (h : l[k]? = some x) : prevAt l (k + 1) = some x := h
theorem pos_succ (k : Nat) : decide ((0 : Int) < ((k + 1 : Nat) : Int)) = true := decide_eq_true (by omega)
theorem implSc_tr (l : List Int) (hl : l.length ≤ 9223372036854775807) : Tr (fun m => m_impl_scopesOk m l) (scOk l) := by
  refine Tr.eq (fun m => by unfold m_impl_scopesOk; rfl) ?_
  have key := drop_ind l (fun k zs => Tr (fun m => m_impl_scopesOk_l1 m l (k : Int)) (scF (prevAt l k) zs && decide ((l.length : Int) ≤ 24))) ?_ ?_ 0 (Nat.zero_le _)
  · simpa [scOk, prevAt] using key
  · exact Tr.step (fun m => by rw [m_impl_scopesOk_l1, ltN_self, cond_false]; simp [scF]) Tr.val
  · intro k x zs hk hx hd ih
    rw [prev_succ hx] at ih
    refine Tr.step (fun m => by rw [m_impl_scopesOk_l1, ltN hk, cond_true, idx_nat hx, Option.bind_some, succN]) ?_
    refine Tr.bind (within_tr _ _ _) ?_
    rw [scF]
    cases (decide (1 ≤ x) && decide (x ≤ 99)) with
    | false => exact Tr.tt rfl Tr.val
    | true =>
    refine Tr.ff rfl ?_
    cases k with
    | zero => exact Tr.ff (by simp) (by simpa [prevAt, gtP] using ih)
    | succ j =>
      have hj : l[j]? = some l[j] := List.getElem?_eq_getElem (by omega)
      refine Tr.tt (pos_succ j) (Tr.eq (fun m => by rw [w64_in (by omega), show ((j + 1 : Nat) : Int) - 1 = (j : Int) by omega, idx_nat hj, Option.bind_some]) ?_)
      rw [show prevAt l (j + 1) = some l[j] from hj, gtP]
      by_cases h : x ≤ l[j]
      · rw [decide_eq_false (show ¬ l[j] < x by omega)]; exact Tr.tt (decide_eq_true h) Tr.val
      · rw [decide_eq_true (show l[j] < x by omega)]; exact Tr.ff (decide_eq_false h) (by simpa using ih)
end Go.Abs
end
section
set_option linter.unusedVariables false
set_option linter.unusedSimpArgs false
namespace Go.Abs
mutual
def Form.isOk : Form → Nat → Bool
  | .mk kind name n scopes kids, d => bif decide (d = 0) then false else
    bif decide (kind = 1) then (nmOk name && (decide (n = 0) && (scOk scopes && decide ((kids.length : Int) = 0))))
    else bif decide (kind = 2) then (decide (name = (⟨#[]⟩ : ByteArray)) && ((decide (0 ≤ n) && decide (n ≤ 999)) && (decide ((scopes.length : Int) = 0) && decide ((kids.length : Int) = 0))))
    else (decide (kind = 3) && (decide (name = (⟨#[]⟩ : ByteArray)) && (decide (n = 0) && (decide ((scopes.length : Int) = 0) && Form.isOks kids (d - 1)))))
def Form.isOks : List Form → Nat → Bool
  | [], _ => true
  | f :: fs, d => f.isOk d && Form.isOks fs d
end
mutual
def Form.cnt : Form → Nat
  | .mk _ _ _ _ kids => 1 + Form.cnts kids
def Form.cnts : List Form → Nat
  | [] => 0
  | f :: fs => f.cnt + Form.cnts fs
end
theorem Form.isOks_eq (d : Nat) : ∀ l : List Form, Form.isOks l d = alls (fun x => x.isOk d) l
  | [] => rfl
  | f :: fs => by rw [Form.isOks, alls, Form.isOks_eq d fs]
theorem Form.isOk_eq (f : Form) (d : Nat) : f.isOk d = bif decide (d = 0) then false else
    bif decide (f.kind = 1) then (nmOk f.name && (decide (f.n = 0) && (scOk f.scopes && decide ((f.kids.length : Int) = 0))))
    else bif decide (f.kind = 2) then (decide (f.name = (⟨#[]⟩ : ByteArray)) && ((decide (0 ≤ f.n) && decide (f.n ≤ 999)) && (decide ((f.scopes.length : Int) = 0) && decide ((f.kids.length : Int) = 0))))
    else (decide (f.kind = 3) && (decide (f.name = (⟨#[]⟩ : ByteArray)) && (decide (f.n = 0) && (decide ((f.scopes.length : Int) = 0) && alls (fun x => x.isOk (d - 1)) f.kids)))) := by
  obtain ⟨a, b, c, e, g⟩ := f; rw [Form.isOk, Form.isOks_eq]; rfl
theorem Form.cnt_eq (f : Form) : f.cnt = 1 + Form.cnts f.kids := by obtain ⟨a, b, c, e, g⟩ := f; rw [Form.cnt]; rfl
def Form.valid (f : Form) : Bool := f.isOk 40 && decide (f.cnt ≤ 400)
theorem formOk_n : ∀ (n : Nat) (f : Form) (d : Nat) (g : Int), f.w ≤ n → f.fit → 1 ≤ d → d ≤ 41 → 0 ≤ g → g ≤ 400 → TQ (fun m => m_impl_formOk m f (d : Int) g) (fun r => r.1 = (f.isOk (41 - d) && decide ((f.cnt : Int) ≤ g)) ∧ (r.1 = true → r.2 = g - f.cnt)) := by
  intro n
  induction n with
  | zero => intro a d g h; have := a.w_pos; omega
  | succ n ih =>
    intro f d g h hf hd hd' hg hg'
    obtain ⟨f1, f2, f3, f4⟩ := hf.parts
    have hw := f.w_kids
    have hcn := f.cnt_eq
    rw [Form.isOk_eq]
    refine TQ.step (fun m => by rw [m_impl_formOk, w64_in (by omega)]) ?_
    by_cases hg0 : g - 1 < 0
    · refine TQ.eq (fun m => by rw [decide_eq_true hg0, cond_true]) (TQ.val ⟨?_, fun h => by cases h⟩)
      rw [decide_eq_false (show ¬ (f.cnt : Int) ≤ g by omega), Bool.and_false]
    refine TQ.eq (fun m => by rw [decide_eq_false hg0, cond_false]) ?_
    by_cases hd0 : 40 < (d : Int)
    · refine TQ.eq (fun m => by rw [decide_eq_true hd0, cond_true]) (TQ.val ⟨?_, fun h => by cases h⟩)
      rw [decide_eq_true (show 41 - d = 0 by omega), cond_true, Bool.false_and]
    refine TQ.eq (fun m => by rw [decide_eq_false hd0, cond_false]) ?_
    rw [decide_eq_false (show ¬ 41 - d = 0 by omega), cond_false]
    have leaf : ∀ (b : Bool), ((b && decide ((f.kids.length : Int) = 0)) = true → True) := fun _ _ => trivial
    have cnt1 : (f.kids.length : Int) = 0 → (f.cnt : Int) = 1 := fun h => by
      have : f.kids = [] := List.eq_nil_of_length_eq_zero (by omega)
      rw [hcn, this, Form.cnts]; rfl
    have fin : TQ (fun _ => some ((decide ((f.kids.length : Int) = 0)), g - 1)) (fun r => r.1 = (decide ((f.kids.length : Int) = 0) && decide ((f.cnt : Int) ≤ g)) ∧ (r.1 = true → r.2 = g - f.cnt)) := by
      refine TQ.val ⟨?_, fun h => by have := cnt1 (by simpa using h); omega⟩
      by_cases hk : (f.kids.length : Int) = 0
      · have := cnt1 hk
        rw [decide_eq_true hk, decide_eq_true (show (f.cnt : Int) ≤ g by omega)]; rfl
      · rw [decide_eq_false hk]; rfl
    have no : TQ (fun _ => some (false, g - 1)) (fun r => r.1 = (false && decide ((f.cnt : Int) ≤ g)) ∧ (r.1 = true → r.2 = g - f.cnt)) := TQ.val ⟨rfl, fun h => by cases h⟩
    cases decide (f.kind = 1) with
    | true =>
      refine TQ.eq (fun m => by rw [cond_true]) (TQ.ev (implNm_tr _ f1) ?_)
      rw [cond_true]
      cases nmOk f.name with
      | false => exact no
      | true =>
      refine TQ.eq (fun m => by rw [cond_true]) ?_
      cases decide (f.n = 0) with
      | false => exact no
      | true =>
      refine TQ.eq (fun m => by rw [cond_true]) (TQ.ev (implSc_tr _ f2) ?_)
      cases scOk f.scopes with
      | false => exact no
      | true => exact fin
    | false =>
    refine TQ.eq (fun m => by rw [cond_false]) ?_
    rw [cond_false]
    cases decide (f.kind = 2) with
    | true =>
      refine TQ.eq (fun m => by rw [cond_true]) ?_
      rw [cond_true]
      cases decide (f.name = (⟨#[]⟩ : ByteArray)) with
      | false => exact no
      | true =>
      refine TQ.eq (fun m => by rw [cond_true]) (TQ.ev (within_tr _ _ _) ?_)
      cases (decide (0 ≤ f.n) && decide (f.n ≤ 999)) with
      | false => exact no
      | true =>
      refine TQ.eq (fun m => by rw [cond_true]) ?_
      cases decide ((f.scopes.length : Int) = 0) with
      | false => exact no
      | true => exact fin
    | false =>
    refine TQ.eq (fun m => by rw [cond_false]) ?_
    rw [cond_false]
    cases decide (f.kind = 3) with
    | false => exact no
    | true =>
    refine TQ.eq (fun m => by rw [cond_true]) ?_
    by_cases h4 : f.name = (⟨#[]⟩ : ByteArray)
    case neg => rw [decide_eq_false h4]; exact TQ.eq (fun m => by rw [decide_eq_true h4, cond_true]) no
    rw [decide_eq_true h4]
    refine TQ.eq (fun m => by rw [decide_eq_false (fun h => h h4), cond_false]) ?_
    by_cases h5 : f.n = 0
    case neg => rw [decide_eq_false h5]; exact TQ.eq (fun m => by rw [decide_eq_true h5, cond_true]) no
    rw [decide_eq_true h5]
    refine TQ.eq (fun m => by rw [decide_eq_false (fun h => h h5), cond_false]) ?_
    by_cases h6 : (f.scopes.length : Int) = 0
    case neg => rw [decide_eq_false h6]; exact TQ.eq (fun m => by rw [decide_eq_true (show 0 < (f.scopes.length : Int) by omega), cond_true]) no
    rw [decide_eq_true h6]
    refine TQ.eq (fun m => by rw [decide_eq_false (show ¬ 0 < (f.scopes.length : Int) by omega), cond_false]) ?_
    have key := drop_ind f.kids (fun k zs => ∀ g : Int, 0 ≤ g → g ≤ 400 → TQ (fun m => m_impl_formOk_l1 m f (d : Int) (k : Int) g) (fun r => r.1 = (alls (fun x => x.isOk (41 - d - 1)) zs && decide ((Form.cnts zs : Int) ≤ g)) ∧ (r.1 = true → r.2 = g - Form.cnts zs))) ?_ ?_ 0 (Nat.zero_le _) (g - 1) (by omega) (by omega)
    · refine TQ.mono (by simpa using key) (fun r hr => ⟨?_, fun h => by have := hr.2 h; omega⟩)
      rw [hr.1]
      simp only [Bool.true_and]
      congr 1
      rw [Bool.eq_iff_iff, decide_eq_true_iff, decide_eq_true_iff]; omega
    · intro g hg _
      exact TQ.step (fun m => by rw [m_impl_formOk_l1, ltN_self, cond_false]) (TQ.val ⟨by simp [alls, Form.cnts, hg], fun _ => by simp [Form.cnts]⟩)
    · intro k x zs hk hx hdr ihk g hg hg'
      have hm := List.mem_of_getElem? hx
      refine TQ.step (fun m => by rw [m_impl_formOk_l1, ltN hk, cond_true, idx_nat hx, Option.bind_some, succN, w64_in (by omega), succN]) ?_
      refine TQ.bind (ih x (d + 1) g (by have := Form.ws_mem hm; omega) (Form.fits_mem f4 hm) (by omega) (by omega) hg hg') (fun r hr => ?_)
      obtain ⟨h1, h2⟩ := hr
      have e : 41 - (d + 1) = 41 - d - 1 := by omega
      rw [e] at h1
      refine TQ.cond (fun hb => ?_) (fun hb => ?_)
      · refine TQ.val ⟨?_, fun h => by cases h⟩
        replace hb : r.1 = false := by simpa using hb
        rw [hb] at h1
        rw [alls, Form.cnts]
        cases hx : x.isOk (41 - d - 1) with
        | false => rfl
        | true =>
          rw [hx, Bool.true_and] at h1
          have : ¬ (x.cnt : Int) ≤ g := of_decide_eq_false h1.symm
          rw [decide_eq_false (show ¬ ((x.cnt + Form.cnts zs : Nat) : Int) ≤ g by omega), Bool.and_false]
      · replace hb : r.1 = true := by simpa using hb
        have h3 := h2 hb
        rw [hb] at h1
        have h4 := (Bool.and_eq_true _ _ ▸ h1.symm : _ ∧ _)
        have h5 : (x.cnt : Int) ≤ g := of_decide_eq_true h4.2
        refine TQ.mono (ihk r.2 (by omega) (by omega)) (fun q hq => ⟨?_, fun h => by have := hq.2 h; rw [Form.cnts]; omega⟩)
        rw [hq.1, alls, Form.cnts, h4.1, Bool.true_and]
        congr 1
        rw [Bool.eq_iff_iff, decide_eq_true_iff, decide_eq_true_iff]; omega
theorem implFormValid_tr (f : Form) (hf : f.fit) : Tr (fun m => m_impl_FormValid m f) f.valid := by
  obtain ⟨r, h1, h2, _⟩ := formOk_n _ f 1 400 (Nat.le_refl _) hf (by omega) (by omega) (by omega) (by omega)
  refine Tr.eq (fun m => by unfold m_impl_FormValid; rfl) (Tr.bind h1 (Tr.of fun m => ?_))
  rw [h2]; unfold Form.valid; congr 2
  rw [Bool.eq_iff_iff, decide_eq_true_iff, decide_eq_true_iff]; omega
end Go.Abs
end
section
set_option linter.unusedVariables false
set_option linter.unusedSimpArgs false
namespace Go.Abs
abbrev dotsN : ByteArray := (⟨#[46, 46, 46]⟩ : ByteArray)
abbrev underN : ByteArray := (⟨#[95]⟩ : ByteArray)
abbrev form0 : Form := Form.mk 0 (⟨#[]⟩ : ByteArray) 0 ([] : List Int) ([] : List Form)
def isNm (f : Form) : Bool := decide (f.kind = 1) && f.valid
mutual
noncomputable def Hit.isOk : Hit → Bool
  | .mk name depth one many => isNm name && (!decide (name.name = dotsN) && (!decide (name.name = underN) && ((decide (0 ≤ depth) && decide (depth ≤ 3)) &&
      bif decide (depth = 0) then (one.valid && decide ((many.length : Int) = 0)) else (same one form0 && (decide ((many.length : Int) ≤ 400) && Hit.isOks many name (depth - 1))))))
noncomputable def Hit.isOks : List Hit → Form → Int → Bool
  | [], _, _ => true
  | x :: xs, nm, d => (same x.name nm && (decide (x.depth = d) && x.isOk)) && Hit.isOks xs nm d
end
theorem Hit.isOks_eq (nm : Form) (d : Int) : ∀ l : List Hit, Hit.isOks l nm d = alls (fun x => same x.name nm && (decide (x.depth = d) && x.isOk)) l
  | [] => by rw [Hit.isOks, alls]
  | x :: xs => by rw [Hit.isOks, alls, Hit.isOks_eq nm d xs]
theorem Hit.isOk_eq (h : Hit) : h.isOk = (isNm h.name && (!decide (h.name.name = dotsN) && (!decide (h.name.name = underN) && ((decide (0 ≤ h.depth) && decide (h.depth ≤ 3)) &&
      bif decide (h.depth = 0) then (h.one.valid && decide ((h.many.length : Int) = 0)) else (same h.one form0 && (decide ((h.many.length : Int) ≤ 400) && alls (fun x => same x.name h.name && (decide (x.depth = h.depth - 1) && x.isOk)) h.many)))))) := by
  obtain ⟨a, b, c, d⟩ := h; rw [Hit.isOk, Hit.isOks_eq]; rfl
end Go.Abs
end
section
set_option linter.unusedVariables false
set_option linter.unusedSimpArgs false
namespace Go.Abs
def isDots (f : Form) : Bool := decide (f.kind = 1) && decide (f.name = dotsN)
noncomputable def depF : List (Form × Int) → Form → Int
  | [], _ => -1
  | p :: ps, f => bif same p.1 f then p.2 else depF ps f
noncomputable def dep (l : List (Form × Int)) (f : Form) : Int := bif decide (f.kind ≠ 1) then -1 else depF l f
def nd (l : List Hit) : List (Form × Int) := l.map fun h => (h.name, h.depth)
end Go.Abs
end
section
set_option linter.unusedVariables false
set_option linter.unusedSimpArgs false
namespace Go.Abs
def lessI (k : Nat) (d : Int) : Int := bif decide (0 < d) then (bif decide ((k : Int) < d) then d - k else 0) else d
theorem lessI_succ (k : Nat) (d : Int) : lessI (k + 1) d = bif decide (0 < lessI k d) then lessI k d - 1 else lessI k d := by
  unfold lessI
  by_cases h : 0 < d
  · rw [decide_eq_true h, cond_true, cond_true]
    by_cases h2 : (k : Int) < d
    · rw [decide_eq_true h2, cond_true, decide_eq_true (show 0 < d - (k : Int) by omega), cond_true]
      by_cases h3 : ((k + 1 : Nat) : Int) < d
      · rw [decide_eq_true h3, cond_true]; omega
      · rw [decide_eq_false h3, cond_false]; omega
    · rw [decide_eq_false h2, cond_false, decide_eq_false (show ¬ ((k + 1 : Nat) : Int) < d by omega), cond_false]; rfl
  · rw [decide_eq_false h, cond_false, cond_false, decide_eq_false h, cond_false]
theorem lessI_zero (d : Int) : lessI 0 d = d := by
  unfold lessI
  by_cases h : 0 < d
  · rw [decide_eq_true h, cond_true, decide_eq_true (show ((0 : Nat) : Int) < d by omega), cond_true]; omega
  · rw [decide_eq_false h, cond_false]
def rowOf (h : Hit) : Hit := Hit.mk h.name (bif decide (0 < h.depth) then h.depth - 1 else h.depth) h.one ([] : List Hit)
theorem depF_row (f : Form) : ∀ l : List Hit, depF (nd (l.map rowOf)) f = bif decide (0 < depF (nd l) f) then depF (nd l) f - 1 else depF (nd l) f
  | [] => rfl
  | h :: hs => by
    have ih := depF_row f hs
    simp only [nd, List.map_cons, List.map_map] at ih ⊢
    rw [depF, depF]
    show (bif same h.name f then _ else _) = _
    simp only
    cases same h.name f with
    | true => rfl
    | false => simp only [cond_false]; exact ih
theorem dep_row (f : Form) (l : List Hit) : dep (nd (l.map rowOf)) f = bif decide (0 < dep (nd l) f) then dep (nd l) f - 1 else dep (nd l) f := by
  unfold dep
  cases decide (f.kind ≠ 1) with
  | true => rfl
  | false => simp only [cond_false]; exact depF_row f l
structure RowK (k : Nat) (l' l : List Hit) : Prop where
  dep : ∀ f, Abs.dep (nd l') f = lessI k (Abs.dep (nd l) f)
  len : l'.length = l.length
  fit : ∀ h ∈ l', -9223372036854775808 ≤ h.depth ∧ h.depth ≤ 9223372036854775807
theorem RowK.zero {l : List Hit} (h : ∀ h ∈ l, -9223372036854775808 ≤ h.depth ∧ h.depth ≤ 9223372036854775807) : RowK 0 l l := ⟨fun f => (lessI_zero _).symm, rfl, h⟩
theorem RowK.succ {k : Nat} {l' l : List Hit} (h : RowK k l' l) : RowK (k + 1) (l'.map rowOf) l := by
  refine ⟨fun f => by rw [dep_row, h.dep f, lessI_succ], by rw [List.length_map, h.len], fun y hy => ?_⟩
  obtain ⟨x, hx, rfl⟩ := List.mem_map.1 hy
  obtain ⟨h1, h2⟩ := h.fit x hx
  show -9223372036854775808 ≤ (bif decide (0 < x.depth) then x.depth - 1 else x.depth) ∧ (bif decide (0 < x.depth) then x.depth - 1 else x.depth) ≤ 9223372036854775807
  by_cases h0 : 0 < x.depth
  · rw [decide_eq_true h0, cond_true]; omega
  · rw [decide_eq_false h0, cond_false]; exact ⟨h1, h2⟩
end Go.Abs
end
section
set_option linter.unusedVariables false
set_option linter.unusedSimpArgs false
namespace Go.Abs
end Go.Abs
end
section
set_option linter.unusedVariables false
set_option linter.unusedSimpArgs false
namespace Go.Abs
def cntD : List Form → Nat
  | [] => 0
  | x :: xs => (bif isDots x then 1 else 0) + cntD xs
mutual
def Form.shp : Form → Bool
  | .mk k nm n sc kids => !isDots (.mk k nm n sc kids) && (Form.kP true kids && decide (cntD kids ≤ 1))
def Form.kP : Bool → List Form → Bool
  | _, [] => true
  | pd, x :: xs => (bif isDots x then !pd else x.shp) && Form.kP (isDots x) xs
end
theorem Form.shp_eq (f : Form) : f.shp = (!isDots f && (Form.kP true f.kids && decide (cntD f.kids ≤ 1))) := by obtain ⟨a, b, c, d, e⟩ := f; rw [Form.shp]; rfl
end Go.Abs
end
section
set_option linter.unusedVariables false
set_option linter.unusedSimpArgs false
namespace Go.Abs
end Go.Abs
end
section
set_option linter.unusedVariables false
set_option linter.unusedSimpArgs false
namespace Go.Abs
end Go.Abs
end
end
section
set_option linter.unusedVariables false
set_option linter.unusedSimpArgs false
namespace Go.Abs
theorem byte_mem {r : l15Rd} {K : Int} (h : OkRd r K) {x : Int} (hx : x ∈ r.b) : 0 ≤ x ∧ x < 256 := h.byte x hx
theorem tmod_lt {a b : Int} (ha : 0 ≤ a) (hb : 0 < b) : 0 ≤ a.tmod b ∧ a.tmod b < b := by
  rw [Int.tmod_eq_emod_of_nonneg ha]
  exact ⟨Int.emod_nonneg _ (by omega), Int.emod_lt_of_pos _ hb⟩
theorem pick_tq (o : l15Rd) (n : Int) (K : Int) (h : OkRd o K) (hK : K ≤ 1000000000000) : TQ (fun m => m_spec_l15Rd_pick m o n) (fun r => OkRd r.2 (K + 1) ∧ r.2.b = o.b ∧ (0 < n → 0 ≤ r.1 ∧ r.1 < n) ∧ (n ≤ 0 → r.1 = 0)) := by
  have h0 := h.lo
  have h1 := h.hi
  have e1 : w64 (o.p + 1) = o.p + 1 := w64_in (by omega)
  have e2 : w64 (o.p + 1 - 1) = o.p := by rw [w64_in (by omega)]; omega
  have hok : OkRd (l15Rd.mk o.b (o.p + 1)) (K + 1) := ⟨h.len, h.byte, by simp only; omega, by simp only; omega⟩
  refine TQ.eq (fun m => by unfold m_spec_l15Rd_pick; rw [e1, e2]) ?_
  refine TQ.cond (fun hc => TQ.val ⟨hok, rfl, fun hn => ?_, fun _ => rfl⟩) (fun hc => ?_)
  · simp at hc; omega
  have hn : 0 < n := by simp at hc; omega
  refine TQ.cond (fun hc2 => TQ.val ⟨hok, rfl, fun _ => ⟨Int.le_refl _, hn⟩, fun _ => rfl⟩) (fun hc2 => ?_)
  have hlen : 0 < o.b.length := by simp at hc2; exact List.length_pos_iff.2 hc2
  have hlen2 := h.len
  refine TQ.cond (fun hc3 => ?_) (fun hc3 => ?_)
  · refine TQ.idx h0 (by simpa using hc3) (fun x hx => ?_)
    obtain ⟨b0, b1⟩ := byte_mem h hx
    refine TQ.chk (by simp; omega) (TQ.val ⟨hok, rfl, fun _ => ?_, fun hh => absurd hn (by omega)⟩)
    rw [w64_in (by omega)]
    exact tmod_lt b0 hn
  · refine TQ.chk (by simp; exact List.length_pos_iff.1 hlen) ?_
    obtain ⟨i0, i1⟩ := tmod_lt h0 (show (0 : Int) < o.b.length by omega)
    refine TQ.idx i0 i1 (fun x hx => ?_)
    obtain ⟨b0, b1⟩ := byte_mem h hx
    refine TQ.chk (by simp; exact List.length_pos_iff.1 hlen) ?_
    have e3 : w64 (w64 (o.p * 7) + 3) = o.p * 7 + 3 := by rw [w64_in (n := o.p * 7) (by omega), w64_in (by omega)]
    rw [e3]
    obtain ⟨j0, j1⟩ := tmod_lt (show (0 : Int) ≤ o.p * 7 + 3 by omega) (show (0 : Int) < o.b.length by omega)
    refine TQ.idx j0 j1 (fun y hy => ?_)
    obtain ⟨c0, c1⟩ := byte_mem h hy
    refine TQ.chk (by simp; exact List.length_pos_iff.1 hlen) ?_
    refine TQ.chk (by simp; omega) (TQ.val ⟨hok, rfl, fun _ => ?_, fun hh => absurd hn (by omega)⟩)
    have q1 : 0 ≤ o.p.tdiv o.b.length ∧ o.p.tdiv o.b.length ≤ o.p := by
      rw [Int.tdiv_eq_ediv_of_nonneg h0]
      exact ⟨Int.ediv_nonneg h0 (by omega), Int.ediv_le_self _ h0⟩
    have e4 : w64 (w64 (w64 (w64 (w64 x * 131) + w64 (w64 y * 1117)) + w64 (o.p * 29)) + w64 (w64 (o.p.tdiv o.b.length) * 53)) = x * 131 + y * 1117 + o.p * 29 + o.p.tdiv o.b.length * 53 := by
      rw [w64_in (n := x) (by omega), w64_in (n := y) (by omega), w64_in (n := x * 131) (by omega), w64_in (n := y * 1117) (by omega), w64_in (n := x * 131 + y * 1117) (by omega), w64_in (n := o.p * 29) (by omega), w64_in (n := o.p.tdiv o.b.length) (by omega), w64_in (n := o.p.tdiv o.b.length * 53) (by omega), w64_in (n := x * 131 + y * 1117 + o.p * 29) (by omega), w64_in (by omega)]
    rw [e4]
    have hx0 : 0 ≤ x * 131 + y * 1117 + o.p * 29 + o.p.tdiv o.b.length * 53 := by omega
    have hx1 : x * 131 + y * 1117 + o.p * 29 + o.p.tdiv o.b.length * 53 < 2 ^ 60 := by omega
    generalize x * 131 + y * 1117 + o.p * 29 + o.p.tdiv o.b.length * 53 = z at hx0 hx1
    have hz : 0 ≤ z.tdiv 64 ∧ z.tdiv 64 ≤ z := by
      rw [Int.tdiv_eq_ediv_of_nonneg hx0]
      exact ⟨by omega, by omega⟩
    rw [w64_in (n := z.tdiv 64) (by omega)]
    exact tmod_lt (xor_nonneg hx0 (by omega) hz.1 (by omega)) hn
theorem of_tq (o : l15Rd) (l : List ByteArray) (K : Int) (h : OkRd o K) (hK : K ≤ 1000000000000) (hl : 0 < l.length) : TQ (fun m => m_spec_l15Rd_of m o l) (fun r => OkRd r.2 (K + 1) ∧ r.1 ∈ l) := by
  refine TQ.eq (fun m => by unfold m_spec_l15Rd_of; rfl) ?_
  refine TQ.bind (pick_tq o _ K h hK) (fun v hv => ?_)
  obtain ⟨h1, _, h2, _⟩ := hv
  obtain ⟨h2, h3⟩ := h2 (by omega)
  exact TQ.idx h2 h3 (fun x hx => TQ.val ⟨h1, hx⟩)
theorem open_tq (code : List Int) (h : ∀ x ∈ code, 0 ≤ x ∧ x < 256) : TQ (fun m => m_spec_l15Open m code) (fun r => OkRd r 0) := by
  refine TQ.eq (fun m => by unfold m_spec_l15Open; rfl) ?_
  refine TQ.cond (fun hc => ?_) (fun hc => ?_)
  · have hlt : 2000 < code.length := by simp at hc; omega
    have e : sub code 0 2000 = some (code.take 2000) := by
      unfold sub
      have : (2000 : Int) ≤ code.length := by omega
      simp [this]
    refine ⟨_, Tr.eq (fun m => by rw [e]; rfl) Tr.val, ⟨?_, ?_, ?_, ?_⟩⟩
    · simp [List.length_take]; omega
    · intro x hx; exact h x (List.mem_of_mem_take hx)
    · simp
    · simp
  · refine TQ.val ⟨?_, h, ?_, ?_⟩
    · simp at hc; simp; omega
    · simp
    · simp
end Go.Abs
end
section
set_option linter.unusedVariables false
set_option linter.unusedSimpArgs false
namespace Go.Abs
theorem Form.fits_app : ∀ {a b : List Form}, Form.fits a → Form.fits b → Form.fits (a ++ b)
  | [], b, _, hb => hb
  | x :: a, b, ha, hb => by rw [Form.fits] at ha; rw [List.cons_append, Form.fits]; exact ⟨ha.1, Form.fits_app ha.2 hb⟩
end Go.Abs
end
section
set_option linter.unusedVariables false
set_option linter.unusedSimpArgs false
namespace Go.Abs
theorem Form.fits_one {f : Form} (h : f.fit) : Form.fits [f] := by rw [Form.fits, Form.fits]; exact ⟨h, trivial⟩
theorem Form.fits_nil : Form.fits [] := by rw [Form.fits]; trivial
theorem TQ.same {α : Type} {F : Nat → Option α} {v : α} (h : Tr F v) : TQ F (fun r => r = v) := ⟨v, h, rfl⟩
theorem TQ.tr {α : Type} {F : Nat → Option α} {v : α} (h : TQ F (fun r => r = v)) : Tr F v := by obtain ⟨r, h, rfl⟩ := h; exact h
theorem TQ.at {α β : Type} {l : List α} {i : Int} {x : α} {g : α → Nat → Option β} {R : β → Prop} (hx : Abs.idx l i = some x) (h : TQ (fun m => g x m) R) : TQ (fun m => (Abs.idx l i).bind fun y => g y m) R := by
  obtain ⟨w, hw, hr⟩ := h
  exact ⟨w, Tr.idx hx hw, hr⟩
structure Dr (n : Nat) (f : Form) : Prop where
  w : f.w ≤ n
  fit : f.fit
theorem Dr.mono {n k : Nat} {f : Form} (h : Dr n f) (hk : n ≤ k) : Dr k f := ⟨Nat.le_trans h.w hk, h.fit⟩
end Go.Abs
end
section
set_option linter.unusedVariables false
set_option linter.unusedSimpArgs false
namespace Go.Abs
mutual
noncomputable def Form.part (x : Form) : Form → Bool
  | .mk a b c d kids => same (Form.mk a b c d kids) x || Form.parts x kids
noncomputable def Form.parts (x : Form) : List Form → Bool
  | [] => false
  | y :: ys => Form.part x y || Form.parts x ys
end
end Go.Abs
end
section
set_option linter.unusedVariables false
set_option linter.unusedSimpArgs false
namespace Go.Abs
def anys {α : Type} (D : α → Bool) : List α → Bool
  | [] => false
  | x :: xs => D x || anys D xs
def hasB (l : List Int) (n : Int) : Bool := anys (fun x => decide (x = n)) l
end Go.Abs
end
section
set_option linter.unusedVariables false
set_option linter.unusedSimpArgs false
namespace Go.Abs
structure PatS (p : Form) : Prop where
  ok : ∃ d, p.isOk d = true
  shp : p.shp = true
def KidS (x : Form) : Prop := (∃ d, x.isOk d = true) ∧ (isDots x = true ∨ x.shp = true)
theorem isOk_kids {f : Form} {d : Nat} (h : f.isOk d = true) : (f.kind ≠ 3 → f.kids = []) ∧ ∀ x ∈ f.kids, x.isOk (d - 1) = true := by
  rw [Form.isOk_eq] at h
  cases hd : decide (d = 0) with
  | true => rw [hd] at h; cases h
  | false =>
  rw [hd, cond_false] at h
  by_cases h1 : f.kind = 1
  · rw [decide_eq_true h1, cond_true] at h
    simp only [Bool.and_eq_true, decide_eq_true_eq] at h
    have : f.kids = [] := List.eq_nil_of_length_eq_zero (by omega)
    exact ⟨fun _ => this, fun x hx => by rw [this] at hx; cases hx⟩
  · rw [decide_eq_false h1, cond_false] at h
    by_cases h2 : f.kind = 2
    · rw [decide_eq_true h2, cond_true] at h
      simp only [Bool.and_eq_true, decide_eq_true_eq] at h
      have : f.kids = [] := List.eq_nil_of_length_eq_zero (by omega)
      exact ⟨fun _ => this, fun x hx => by rw [this] at hx; cases hx⟩
    · rw [decide_eq_false h2, cond_false] at h
      simp only [Bool.and_eq_true, decide_eq_true_eq] at h
      obtain ⟨h3, _, _, _, h4⟩ := h
      exact ⟨fun hn => absurd h3 hn, fun x hx => alls_iff.1 h4 x hx⟩
theorem kP_mem : ∀ {l : List Form} {pd : Bool}, Form.kP pd l = true → ∀ x ∈ l, isDots x = true ∨ x.shp = true
  | y :: ys, pd, h, x, hx => by
    rw [Form.kP, Bool.and_eq_true] at h
    rcases List.mem_cons.1 hx with rfl | hx
    · cases hd : isDots x with
      | true => exact .inl rfl
      | false => have := h.1; rw [hd, cond_false] at this; exact .inr this
    · exact kP_mem h.2 x hx
theorem PatS.parts {p : Form} (h : PatS p) : isDots p = false ∧ Form.kP true p.kids = true ∧ cntD p.kids ≤ 1 ∧ (∀ x ∈ p.kids, KidS x) ∧ (p.kind ≠ 3 → p.kids = []) := by
  obtain ⟨⟨d, hd⟩, hs⟩ := h
  rw [Form.shp_eq, Bool.and_eq_true, Bool.and_eq_true, Bool.not_eq_true', decide_eq_true_eq] at hs
  obtain ⟨k1, k2⟩ := isOk_kids hd
  exact ⟨hs.1, hs.2.1, hs.2.2, fun x hx => ⟨⟨_, k2 x hx⟩, kP_mem hs.2.1 x hx⟩, k1⟩
theorem Hit.ws_append : ∀ (a b : List Hit), Hit.ws (a ++ b) = Hit.ws a + Hit.ws b
  | [], b => by rw [List.nil_append, Hit.ws, Nat.zero_add]
  | x :: a, b => by rw [List.cons_append, Hit.ws, Hit.ws, Hit.ws_append a b]; omega
theorem Hit.fits_app : ∀ {a b : List Hit}, Hit.fits a → Hit.fits b → Hit.fits (a ++ b)
  | [], b, _, hb => hb
  | x :: a, b, ha, hb => by rw [Hit.fits] at ha; rw [List.cons_append, Hit.fits]; exact ⟨ha.1, Hit.fits_app ha.2 hb⟩
end Go.Abs
end
section
set_option linter.unusedVariables false
set_option linter.unusedSimpArgs false
namespace Go.Abs
def MR (o : Option (List Hit)) (out : List Hit) (r : List Hit × Bool) : Prop := r.2 = o.isSome ∧ ∀ h, o = some h → r.1 = out ++ h
theorem MR.none {out : List Hit} {x : List Hit} : MR none out (x, false) := ⟨rfl, fun h hh => by cases hh⟩
end Go.Abs
end
section
set_option linter.unusedVariables false
set_option linter.unusedSimpArgs false
namespace Go.Abs
def Bind.fit (b : Bind) : Prop := b.name.size ≤ 9223372036854775807 ∧ b.scopes.length ≤ 9223372036854775807
end Go.Abs
end
section
set_option linter.unusedVariables false
set_option linter.unusedSimpArgs false
namespace Go.Abs
structure Rule.fit (r : Rule) : Prop where
  p : r.pattern.fit
  t : r.template.fit
structure Macro.fit (m : Macro) : Prop where
  ll : m.literals.length ≤ 9223372036854775807
  l : Form.fits m.literals
  rl : m.rules.length ≤ 9223372036854775807
  r : ∀ r ∈ m.rules, r.fit
structure Expansion.fit (x : Expansion) : Prop where
  bl : x.binds.length ≤ 9223372036854775807
  b : ∀ b ∈ x.binds, b.fit
  ml : x.macros.length ≤ 9223372036854775807
  m : ∀ m ∈ x.macros, m.fit
end Go.Abs
end
section
set_option linter.unusedVariables false
set_option linter.unusedSimpArgs false
set_option maxHeartbeats 2000000
namespace Go.Abs
mutual
def Core.fit : Core → Prop
  | .mk _ _ name _ ids data kids => name.size ≤ 9223372036854775807 ∧ ids.length ≤ 9223372036854775807 ∧ data.fit ∧ kids.length ≤ 9223372036854775807 ∧ Core.fits kids
def Core.fits : List Core → Prop
  | [] => True
  | x :: xs => x.fit ∧ Core.fits xs
end
theorem Core.fits_mem : ∀ {l : List Core} {x : Core}, Core.fits l → x ∈ l → x.fit
  | y :: l, x, h, hx => by
    rw [Core.fits] at h
    rcases List.mem_cons.1 hx with rfl | hx
    · exact h.1
    · exact Core.fits_mem h.2 hx
theorem Core.fit.parts {f : Core} (h : f.fit) : f.name.size ≤ 9223372036854775807 ∧ f.ids.length ≤ 9223372036854775807 ∧ f.data.fit ∧ f.kids.length ≤ 9223372036854775807 ∧ Core.fits f.kids := by
  obtain ⟨a, b, c, d, e, g, k⟩ := f; rw [Core.fit] at h; exact h
theorem Core.w_pos (f : Core) : 1 ≤ f.w := by have := f.w_kids; omega
abbrev e0 : ByteArray := ⟨#[]⟩
mutual
def Form.scs : Form → List Int
  | .mk _ _ _ scopes kids => scopes ++ Form.scss kids
def Form.scss : List Form → List Int
  | [] => []
  | f :: fs => f.scs ++ Form.scss fs
end
def noScs (f : Form) : Bool := f.scs.isEmpty
end Go.Abs
end
section
set_option linter.unusedVariables false
set_option linter.unusedSimpArgs false
set_option maxHeartbeats 4000000
namespace Go.Abs
def idsOk : List Int → List Int → Bool
  | _, [] => true
  | inn, x :: xs => (decide (1 ≤ x) && decide (x ≤ 999)) && (!hasB inn x && idsOk (inn ++ [x]) xs)
def lenI (c : Core) (k : Int) : Bool := decide ((c.kids.length : Int) = k)
noncomputable def Core.okF (c : Core) (ar : List Int) : Bool :=
  bif decide (c.kind = 1) then (decide (1 ≤ c.id) && decide (c.id ≤ 999)) && (hasB ar c.id && (decide (c.name = e0) && (decide (c.n = 0) && (decide (c.ids = []) && (same c.data form0 && lenI c 0)))))
  else bif decide (c.kind = 2) then nmOk c.name && (decide (c.id = 0) && (decide (c.n = 0) && (decide (c.ids = []) && (same c.data form0 && lenI c 0))))
  else bif decide (c.kind = 3) then (decide (0 ≤ c.n) && decide (c.n ≤ 999)) && (decide (c.id = 0) && (decide (c.name = e0) && (decide (c.ids = []) && (same c.data form0 && lenI c 0))))
  else bif decide (c.kind = 4) then (c.data.valid && noScs c.data) && (decide (c.id = 0) && (decide (c.name = e0) && (decide (c.n = 0) && (decide (c.ids = []) && lenI c 0))))
  else bif decide (c.kind = 5) then idsOk ar c.ids && (decide (c.id = 0) && (decide (c.name = e0) && (decide (c.n = 0) && (same c.data form0 && lenI c 1))))
  else bif decide (c.kind = 6) then (decide (c.id = 0) && (decide (c.name = e0) && (decide (c.n = 0) && (decide (c.ids = []) && (same c.data form0 && decide (1 ≤ (c.kids.length : Int)))))))
  else bif decide (c.kind = 7) then (decide (c.id = 0) && (decide (c.name = e0) && (decide (c.n = 0) && (decide (c.ids = []) && (same c.data form0 && lenI c 3)))))
  else false
mutual
noncomputable def Core.isOk : Core → List Int → Nat → Bool
  | .mk a b c d e f g, ar, dd => bif decide (dd = 0) then false else Core.okF (.mk a b c d e f g) ar && Core.isOks g (ar ++ e) (dd - 1)
noncomputable def Core.isOks : List Core → List Int → Nat → Bool
  | [], _, _ => true
  | c :: cs, ar, d => c.isOk ar d && Core.isOks cs ar d
end
mutual
def Core.cnt : Core → Nat
  | .mk _ _ _ _ _ _ kids => 1 + Core.cnts kids
def Core.cnts : List Core → Nat
  | [] => 0
  | f :: fs => f.cnt + Core.cnts fs
end
theorem Core.isOks_eq (ar : List Int) (d : Nat) : ∀ l : List Core, Core.isOks l ar d = alls (fun x => x.isOk ar d) l
  | [] => rfl
  | f :: fs => by rw [Core.isOks, alls, Core.isOks_eq ar d fs]
theorem Core.isOk_eq (c : Core) (ar : List Int) (d : Nat) : c.isOk ar d = bif decide (d = 0) then false else c.okF ar && alls (fun x => x.isOk (ar ++ c.ids) (d - 1)) c.kids := by
  obtain ⟨a, b, c, d, e, f, g⟩ := c; rw [Core.isOk, Core.isOks_eq]; rfl
theorem Core.cnt_eq (f : Core) : f.cnt = 1 + Core.cnts f.kids := by obtain ⟨a, b, c, e, g, h, k⟩ := f; rw [Core.cnt]; rfl
noncomputable def Core.valid (c : Core) : Bool := c.isOk [] 120 && decide (c.cnt ≤ 600)
end Go.Abs
end
section
set_option linter.unusedVariables false
set_option linter.unusedSimpArgs false
set_option maxHeartbeats 4000000
namespace Go.Abs
theorem Core.fits_app : ∀ {a b : List Core}, Core.fits a → Core.fits b → Core.fits (a ++ b)
  | [], b, _, h => h
  | x :: xs, b, h1, h2 => by rw [Core.fits] at h1; rw [List.cons_append, Core.fits]; exact ⟨h1.1, Core.fits_app h1.2 h2⟩
end Go.Abs
end
section
set_option linter.unusedVariables false
set_option linter.unusedSimpArgs false
set_option maxHeartbeats 4000000
namespace Go.Abs
structure AInv (m : Int → Option Int) (l r : List Int) : Prop where
  len : l.length = r.length
  nl : l.Nodup
  nr : r.Nodup
  at_ : ∀ (i : Nat) (x : Int), l[i]? = some x → m x = r[i]?
theorem AInv.nil : AInv map0 [] [] := ⟨rfl, List.nodup_nil, List.nodup_nil, fun i x h => by simp at h⟩
theorem AInv.get {m : Int → Option Int} {l r : List Int} (h : AInv m l r) {x : Int} (hx : x ∈ l) : ∃ (i : Nat) (y : Int), l[i]? = some x ∧ r[i]? = some y ∧ mapGet m x = y := by
  obtain ⟨i, hi⟩ := List.mem_iff_getElem?.1 hx
  have hl := (List.getElem?_eq_some_iff.1 hi).1
  have hr : r[i]? = some (r[i]'(by have := h.len; omega)) := List.getElem?_eq_getElem _
  refine ⟨i, _, hi, hr, ?_⟩
  unfold mapGet; rw [h.at_ i x hi, hr]; rfl
end Go.Abs
end
section
set_option linter.unusedVariables false
set_option linter.unusedSimpArgs false
set_option maxHeartbeats 4000000
namespace Go.Abs
mutual
def Core.dep : Core → Nat
  | .mk _ _ _ _ _ _ kids => Core.deps kids + 1
def Core.deps : List Core → Nat
  | [] => 0
  | x :: xs => max x.dep (Core.deps xs)
end
end Go.Abs
end
section
set_option linter.unusedVariables false
set_option linter.unusedSimpArgs false
set_option maxHeartbeats 2000000
namespace Go.Abs
open Go.Lib (itoa join joinTail decDigits nDigits)
def mkB (l : List UInt8) : ByteArray := ⟨l.toArray⟩
theorem mkB_list (l : List UInt8) : (mkB l).data.toList = l := by unfold mkB; simp
theorem mkB_size (l : List UInt8) : (mkB l).size = l.length := by rw [sz_list, mkB_list]
theorem mkB_of (s : ByteArray) : mkB s.data.toList = s := by unfold mkB; simp
theorem mkB_inj {a b : List UInt8} (h : mkB a = mkB b) : a = b := by rw [← mkB_list a, h, mkB_list]
theorem itoa_nat (n : Nat) : itoa (n : Int) = decDigits n := by unfold Lib.itoa; rw [if_neg (by omega), Int.toNat_natCast]
theorem jt_cons (sep y : List UInt8) (r : List (List UInt8)) : joinTail sep (y :: r) = sep ++ y ++ joinTail sep r := by simp [joinTail]
def scTx (sc : List Int) : List UInt8 := bif decide (sc.length = 0) then [] else [123] ++ join (sc.map itoa) [44] ++ [125]
mutual
def Form.tx : Form → List UInt8
  | .mk k nm n sc kids => bif decide (k = 1) then nm.data.toList ++ scTx sc else bif decide (k = 2) then itoa n else [40] ++ join (Form.txs kids) [32] ++ [41]
def Form.txs : List Form → List (List UInt8)
  | [] => []
  | f :: fs => f.tx :: Form.txs fs
end
theorem Form.txs_eq : ∀ l : List Form, Form.txs l = l.map Form.tx
  | [] => rfl
  | f :: fs => by rw [Form.txs, Form.txs_eq fs]; rfl
theorem Form.tx_eq (f : Form) : f.tx = bif decide (f.kind = 1) then f.name.data.toList ++ scTx f.scopes else bif decide (f.kind = 2) then itoa f.n else [40] ++ join (f.kids.map Form.tx) [32] ++ [41] := by
  obtain ⟨a, b, c, d, e⟩ := f; rw [Form.tx, Form.txs_eq]; rfl
theorem scF_all : ∀ {l : List Int} {p : Option Int}, scF p l = true → ∀ x ∈ l, 1 ≤ x ∧ x ≤ 99
  | [], p, h, x, hx => by cases hx
  | y :: l, p, h, x, hx => by
    rw [scF] at h
    simp only [Bool.and_eq_true, decide_eq_true_eq] at h
    rcases List.mem_cons.1 hx with rfl | hx
    · exact h.1
    · exact scF_all h.2.2 x hx
theorem scOk_all {l : List Int} (h : scOk l = true) : (∀ x ∈ l, 1 ≤ x ∧ x ≤ 99) ∧ l.length ≤ 24 := by
  unfold scOk at h
  rw [Bool.and_eq_true, decide_eq_true_eq] at h
  exact ⟨scF_all h.1, by omega⟩
end Go.Abs
end
section
set_option linter.unusedVariables false
set_option linter.unusedSimpArgs false
set_option maxHeartbeats 2000000
namespace Go.Abs
open Go.Lib (itoa decDigits)
def dv : Nat → List UInt8 → Option Nat
  | acc, [] => some acc
  | acc, c :: r => bif decide (48 ≤ c.toNat) && decide (c.toNat ≤ 57) then dv (acc * 10 + (c.toNat - 48)) r else none
theorem dv_app (c : UInt8) : ∀ (l : List UInt8) (acc : Nat), dv acc (l ++ [c]) = (dv acc l).bind fun a => dv a [c]
  | [], acc => by rw [List.nil_append, show dv acc [] = some acc from rfl, Option.bind_some]
  | x :: l, acc => by
    rw [List.cons_append, dv, dv, dv_app c l]
    cases decide (48 ≤ x.toNat) && decide (x.toNat ≤ 57) <;> rfl
theorem dig_nat {k : Nat} (h : k < 10) : (UInt8.ofNat (48 + k)).toNat = 48 + k := by
  rw [UInt8.toNat_ofNat']; omega
theorem dv_dig {k : Nat} (h : k < 10) (acc : Nat) (r : List UInt8) : dv acc (UInt8.ofNat (48 + k) :: r) = dv (acc * 10 + k) r := by
  rw [dv, dig_nat h, decide_eq_true (by omega), decide_eq_true (by omega), Bool.and_true, cond_true]
  congr 1; omega
theorem dv_dec : ∀ n : Nat, dv 0 (decDigits n) = some n := by
  intro n
  induction n using Nat.strongRecOn with
  | _ n ih =>
    by_cases h : n < 10
    · rw [Lib.decDigits_one h, dv_dig h, dv]; simp
    · rw [decDigits, dif_neg h, dv_app, ih (n / 10) (by omega), Option.bind_some, dv_dig (by omega), dv]
      congr 1; omega
theorem dv_le : ∀ (l : List UInt8) (acc n : Nat), dv acc l = some n → acc ≤ n
  | [], acc, n, h => by rw [dv] at h; cases h; exact Nat.le_refl _
  | c :: r, acc, n, h => by
    rw [dv] at h
    cases hb : decide (48 ≤ c.toNat) && decide (c.toNat ≤ 57) with
    | false => rw [hb] at h; cases h
    | true => rw [hb, cond_true] at h; have := dv_le r _ n h; omega
theorem dv_cons {c : UInt8} {r : List UInt8} {acc n : Nat} (h : dv acc (c :: r) = some n) : 48 ≤ c.toNat ∧ c.toNat ≤ 57 ∧ dv (acc * 10 + (c.toNat - 48)) r = some n := by
  rw [dv] at h
  cases hb : decide (48 ≤ c.toNat) && decide (c.toNat ≤ 57) with
  | false => rw [hb] at h; cases h
  | true => rw [hb, cond_true] at h; simp at hb; exact ⟨hb.1, hb.2, h⟩
theorem decD_ne (n : Nat) : decDigits n ≠ [] := by
  rw [decDigits]; split <;> simp
def numOf (w : List UInt8) : Option Nat := match dv 0 w with
  | some n => bif decide (decDigits n = w) && decide (n ≤ 999) then some n else none
  | none => none
theorem numOf_some {w : List UInt8} {n : Nat} : numOf w = some n ↔ n ≤ 999 ∧ decDigits n = w := by
  unfold numOf
  constructor
  · intro h
    cases hd : dv 0 w with
    | none => simp [hd] at h
    | some k =>
      simp only [hd] at h
      cases hb : decide (decDigits k = w) && decide (k ≤ 999) with
      | false => rw [hb] at h; cases h
      | true => rw [hb] at h; cases h; simp at hb; exact ⟨hb.2, hb.1⟩
  · rintro ⟨h1, rfl⟩
    simp [dv_dec, h1]
theorem numOf_none {w : List UInt8} (h : numOf w = none) (n : Nat) (hn : n ≤ 999) : decDigits n ≠ w := fun e => by
  rw [numOf_some.2 ⟨hn, e⟩] at h; cases h
theorem parse_dv : ∀ (l : List UInt8) (acc n : Nat), dv acc l = some n → n ≤ 2 ^ 60 → Lib.parseUint10 acc l = .ok n
  | [], acc, n, h, _ => by rw [dv] at h; cases h; rfl
  | c :: r, acc, n, h, hn => by
    obtain ⟨h1, h2, h3⟩ := dv_cons h
    have := dv_le _ _ _ h3
    rw [Lib.parseUint10, if_pos ⟨h1, h2⟩, if_neg (by omega), if_neg (by omega)]
    exact parse_dv r _ n h3 hn
theorem atoi_dec {n : Nat} (hn : n ≤ 999) : Lib.atoiAll (decDigits n) = .ok (n : Int) := by
  have h := dv_dec n
  cases hd : decDigits n with
  | nil => exact absurd hd (decD_ne n)
  | cons c r =>
    rw [hd] at h
    obtain ⟨h1, h2, _⟩ := dv_cons h
    unfold Lib.atoiAll
    dsimp only
    rw [if_neg (by omega)]
    unfold Lib.parseMag
    rw [if_neg (by simp), parse_dv _ _ _ h (by omega)]
    dsimp only
    rw [if_neg (by omega), if_neg (by omega), if_neg (by omega)]
theorem number_tr (w : List UInt8) (hw : w.length ≤ 2 ^ 40) (M : Nat) (hM : M ≤ 999) : ∃ v b, Tr (fun m => m_impl_number m (mkB w) (M : Int)) (v, b) ∧
    (match numOf w with | some n => (b = true ∧ v = (n : Int) ∧ n ≤ M) ∨ (b = false ∧ M < n) | none => b = false) := by
  have hs : (mkB w).size ≤ 140737488355328 := by rw [mkB_size]; omega
  cases hn : numOf w with
  | some n =>
    obtain ⟨h1, rfl⟩ := numOf_some.1 hn
    by_cases hle : n ≤ M
    · refine ⟨n, true, Tr.of fun m => ?_, .inl ⟨rfl, rfl, hle⟩⟩
      unfold m_impl_number
      rw [mkB_list, atoi_dec h1, decide_eq_true hs]
      dsimp only
      rw [itoa_nat, decide_eq_true (show (⟨(decDigits n).toArray⟩ : ByteArray) = mkB (decDigits n) from rfl), decide_eq_true (by omega), decide_eq_true (by omega)]
      rfl
    · refine ⟨n, false, Tr.of fun m => ?_, .inr ⟨rfl, by omega⟩⟩
      unfold m_impl_number
      rw [mkB_list, atoi_dec h1, decide_eq_true hs]
      dsimp only
      rw [itoa_nat, decide_eq_true (show (⟨(decDigits n).toArray⟩ : ByteArray) = mkB (decDigits n) from rfl), decide_eq_true (show (0 : Int) ≤ n by omega), decide_eq_false (show ¬ (n : Int) ≤ M by omega)]
      rfl
  | none =>
    have hno : ∀ v : Int, Lib.atoiAll w = .ok v → ((decide ((⟨(itoa v).toArray⟩ : ByteArray) = mkB w)) && ((decide (0 ≤ v)) && decide (v ≤ (M : Int)))) = false := by
      intro v hv
      rw [Bool.eq_false_iff]
      intro h
      simp only [Bool.and_eq_true, decide_eq_true_eq] at h
      obtain ⟨k, rfl⟩ := Int.eq_ofNat_of_zero_le h.2.1
      have e := mkB_inj (show mkB (itoa (k : Int)) = mkB w from h.1)
      rw [itoa_nat] at e
      exact numOf_none hn k (by omega) e
    rcases ha : Lib.atoiAll w with v | _ | _
    · refine ⟨v, false, Tr.of fun m => ?_, rfl⟩
      unfold m_impl_number
      rw [mkB_list, ha, decide_eq_true hs]
      dsimp only
      rw [hno v ha]; rfl
    · exact ⟨0, false, Tr.of fun m => by unfold m_impl_number; rw [mkB_list, ha, decide_eq_true hs]; rfl, rfl⟩
    · exact ⟨_, false, Tr.of fun m => by unfold m_impl_number; rw [mkB_list, ha, decide_eq_true hs]; rfl, rfl⟩
theorem bidx_mk {w : List UInt8} {k : Nat} {x : UInt8} (h : w[k]? = some x) : bidx (mkB w) (k : Int) = some (x.toNat : Int) := bidx_nat (by rw [mkB_list]; exact h)
theorem bsub_mk (w : List UInt8) {i j : Nat} (h1 : i ≤ j) (h2 : j ≤ w.length) : bsub (mkB w) (i : Int) (j : Int) = some (mkB ((w.take j).drop i)) := by
  unfold bsub
  rw [mkB_size, decide_eq_true (show (0 : Int) ≤ i by omega), decide_eq_true (show (i : Int) ≤ j by omega), decide_eq_true (show (j : Int) ≤ (w.length : Nat) by omega)]
  simp only [Bool.and_self, cond_true, Int.toNat_natCast]
  refine congrArg some (ByteArray.ext ?_)
  rw [ByteArray.data_extract]
  unfold mkB
  simp [List.drop_take]
theorem dropC {α : Type} {w r : List α} {k : Nat} {c : α} (hd : w.drop k = c :: r) : w[k]? = some c ∧ k < w.length ∧ w.drop (k + 1) = r := by
  have h1 : w[k]? = some c := by have := congrArg (·[0]?) hd; simpa using this
  exact ⟨h1, (List.getElem?_eq_some_iff.1 h1).1, by rw [← List.drop_drop, hd]; rfl⟩
end Go.Abs
end
section
set_option linter.unusedVariables false
set_option linter.unusedSimpArgs false
set_option maxHeartbeats 2000000
namespace Go.Abs
theorem drop_of {α : Type} {a b l : List α} (h : a ++ b = l) : l.drop a.length = b := by subst h; simp
theorem take_of {α : Type} {a b l : List α} (h : a ++ b = l) : l.take a.length = a := by subst h; simp
theorem tail_of {α : Type} {a b l : List α} {c : α} (h : a ++ c :: b = l) : l.drop (a.length + 1) = b := by subst h; simp
def skp (l : List UInt8) : List UInt8 := l.dropWhile (· == 32)
def dlm (b : UInt8) : Bool := [32, 40, 41, 123, 125].contains b
def wrd (l : List UInt8) : List UInt8 := l.takeWhile fun b => !dlm b
def rst (l : List UInt8) : List UInt8 := l.dropWhile fun b => !dlm b
theorem wrd_rst (l : List UInt8) : wrd l ++ rst l = l := List.takeWhile_append_dropWhile
theorem rst_drop (l : List UInt8) : rst l = l.drop (wrd l).length := by
  exact (drop_of (wrd_rst l)).symm
theorem wrd_take (l : List UInt8) : wrd l = l.take (wrd l).length := by
  exact (take_of (wrd_rst l)).symm
theorem wrd_le (l : List UInt8) : (wrd l).length ≤ l.length := by
  have := congrArg List.length (wrd_rst l)
  rw [List.length_append] at this; omega
theorem rst_le (l : List UInt8) : (rst l).length ≤ l.length := by
  have := congrArg List.length (wrd_rst l)
  rw [List.length_append] at this; omega
theorem skp_le : ∀ l : List UInt8, (skp l).length ≤ l.length
  | [] => Nat.le_refl _
  | b :: l => by
    unfold skp
    rw [List.dropWhile]
    split
    · have := skp_le l; unfold skp at this; rw [List.length_cons]; omega
    · exact Nat.le_refl _
theorem skp_cons (b : UInt8) (l : List UInt8) : skp (b :: l) = if b = 32 then skp l else b :: l := by
  unfold skp
  rw [List.dropWhile]
  by_cases h : b = 32
  · rw [if_pos h, beq_iff_eq.2 h]
  · rw [if_neg h, beq_eq_false_iff_ne.2 h]
theorem skp_head {l r : List UInt8} {c : UInt8} (h : skp l = c :: r) : c ≠ 32 := by
  induction l with
  | nil => cases h
  | cons b l ih =>
    rw [skp_cons] at h
    split at h
    · exact ih h
    · cases h; assumption
theorem skp_idem (l : List UInt8) : skp (skp l) = skp l := by
  cases h : skp l with
  | nil => rfl
  | cons c r => rw [skp_cons, if_neg (skp_head h)]
theorem skp_id {l : List UInt8} (h : l.head? ≠ some 32) : skp l = l := by
  cases l with
  | nil => rfl
  | cons c r => rw [skp_cons, if_neg (by simpa using h)]
theorem skp_sub (l : List UInt8) : skp l = l.drop (l.length - (skp l).length) := by
  have h : l.takeWhile (· == 32) ++ skp l = l := List.takeWhile_append_dropWhile
  have hl := congrArg List.length h
  rw [List.length_append] at hl
  rw [show l.length - (skp l).length = (l.takeWhile (· == 32)).length by omega, drop_of h]
def bef (c : UInt8) (l : List UInt8) : List UInt8 := l.takeWhile (· != c)
def aft (c : UInt8) (l : List UInt8) : List UInt8 := l.dropWhile (· != c)
theorem bef_aft (c : UInt8) (l : List UInt8) : bef c l ++ aft c l = l := List.takeWhile_append_dropWhile
theorem bef_cons (c b : UInt8) (l : List UInt8) : bef c (b :: l) = if b = c then [] else b :: bef c l := by
  unfold bef; rw [List.takeWhile]
  by_cases h : b = c
  · rw [if_pos h, bne_eq_false_iff_eq.2 h]
  · rw [if_neg h, bne_iff_ne.2 h]
theorem aft_cons (c b : UInt8) (l : List UInt8) : aft c (b :: l) = if b = c then b :: l else aft c l := by
  unfold aft; rw [List.dropWhile]
  by_cases h : b = c
  · rw [if_pos h, bne_eq_false_iff_eq.2 h]
  · rw [if_neg h, bne_iff_ne.2 h]
theorem index_ba (c : UInt8) : ∀ l : List UInt8, (aft c l = [] ∧ Lib.index l [c] = -1) ∨ (∃ r, aft c l = c :: r ∧ Lib.index l [c] = ((bef c l).length : Int))
  | [] => .inl ⟨rfl, rfl⟩
  | b :: l => by
    rw [aft_cons, bef_cons]
    by_cases h : b = c
    · subst h
      right
      refine ⟨l, by rw [if_pos rfl], ?_⟩
      rw [if_pos rfl, Lib.index, if_pos (by simp)]; rfl
    · rw [if_neg h, if_neg h]
      have hp : ([c] : List UInt8).isPrefixOf (b :: l) = false := by
        rw [List.isPrefixOf, beq_eq_false_iff_ne.2 (fun e => h e.symm), Bool.false_and]
      rcases index_ba c l with ⟨h1, h2⟩ | ⟨r, h1, h2⟩
      · exact .inl ⟨h1, by rw [Lib.index, hp, h2]; rfl⟩
      · refine .inr ⟨r, h1, ?_⟩
        rw [Lib.index, hp, h2, if_neg (by simp), if_neg (by simp only [beq_iff_eq]; omega), List.length_cons]; omega
theorem cut_ba (c : UInt8) (l : List UInt8) : Lib.cut l [c] = match aft c l with | [] => (l, [], false) | _ :: r => (bef c l, r, true) := by
  unfold Lib.cut
  rcases index_ba c l with ⟨h1, h2⟩ | ⟨r, h1, h2⟩
  · rw [h2, h1, if_neg (by omega)]
  · have e := bef_aft c l
    rw [h2, h1, if_pos (by omega)]
    dsimp only
    rw [Int.toNat_natCast]
    rw [h1] at e
    refine Prod.ext ?_ (Prod.ext ?_ rfl)
    · exact take_of e
    · exact tail_of e
def cutAt (c : UInt8) : List UInt8 → List (List UInt8)
  | [] => [[]]
  | x :: r => if x = c then [] :: cutAt c r else match cutAt c r with | [] => [[x]] | y :: ys => (x :: y) :: ys
theorem cutAt_len (c : UInt8) : ∀ l : List UInt8, (cutAt c l).length ≤ l.length + 1
  | [] => by simp [cutAt]
  | x :: r => by
    have h := cutAt_len c r
    rw [cutAt]
    split
    · simp; exact h
    · split
      · simp
      · rename_i y ys he
        rw [he] at h; simp at h ⊢; omega
theorem cutAt_ba (c : UInt8) : ∀ l : List UInt8, cutAt c l = match aft c l with | [] => [l] | _ :: r => bef c l :: cutAt c r
  | [] => rfl
  | x :: r => by
    rw [cutAt, aft_cons, bef_cons]
    by_cases h : x = c
    · rw [if_pos h, if_pos h, if_pos h]
    · rw [if_neg h, if_neg h, if_neg h, cutAt_ba c r]
      cases aft c r <;> rfl
theorem aft_lt {c x : UInt8} {l r : List UInt8} (h : aft c l = x :: r) : r.length < l.length ∧ (bef c l).length + 1 + r.length = l.length := by
  have := congrArg List.length (bef_aft c l)
  rw [h, List.length_append, List.length_cons] at this
  omega
theorem splitK_cut (c : UInt8) : ∀ (n : Nat) (l : List UInt8), l.length ≤ n → Lib.splitK [c] 0 (Lib.count l [c]) l = cutAt c l := by
  intro n
  induction n with
  | zero =>
    intro l h
    obtain rfl := List.eq_nil_of_length_eq_zero (l := l) (by omega)
    rfl
  | succ n ih =>
    intro l h
    rw [cutAt_ba]
    rcases index_ba c l with ⟨h1, h2⟩ | ⟨r, h1, h2⟩
    · rw [Lib.count_miss h2, h1]; rfl
    · have e := bef_aft c l
      rw [h1] at e
      have hd : l.drop ((bef c l).length + [c].length) = r := tail_of e
      have ht : l.take (bef c l).length = bef c l := take_of e
      rw [Lib.count_hit (by simp) h2, hd, Nat.add_comm, Lib.splitK, h2, if_neg (by simp only [beq_iff_eq]; omega), Int.toNat_natCast, hd, Nat.add_zero, ht, h1, ih r (by have := aft_lt h1; omega)]
theorem indexAny_wr : ∀ l : List UInt8, (rst l = [] ∧ Lib.indexAny l [32, 40, 41, 123, 125] = -1) ∨ (rst l ≠ [] ∧ Lib.indexAny l [32, 40, 41, 123, 125] = ((wrd l).length : Int))
  | [] => .inl ⟨rfl, rfl⟩
  | b :: l => by
    unfold rst wrd
    rw [List.dropWhile, List.takeWhile, Lib.indexAny]
    cases hb : dlm b with
    | true =>
      rw [if_pos (by exact hb)]
      exact .inr ⟨by simp, rfl⟩
    | false =>
      rw [if_neg (by rw [show ([32, 40, 41, 123, 125] : List UInt8).contains b = false from hb]; simp)]
      rcases indexAny_wr l with ⟨h1, h2⟩ | ⟨h1, h2⟩
      · left
        exact ⟨h1, by rw [h2]; rfl⟩
      · right
        refine ⟨h1, ?_⟩
        rw [h2, if_neg (by simp only [beq_iff_eq]; omega)]
        simp only [Bool.not_false, List.length_cons]
        unfold wrd; omega
theorem trim_mk (l : List UInt8) : (⟨(Lib.trimLeftB (mkB l).data.toList 32).toArray⟩ : ByteArray) = mkB (skp l) := by rw [mkB_list]; rfl
theorem blanks_tr (l : List UInt8) (bad : Bool) : Tr (fun m => m_impl_scan_blanks m ⟨mkB l, bad⟩) (decide ((skp l).length < l.length), ⟨mkB (skp l), bad⟩) := by
  refine Tr.of (fun m => ?_)
  unfold m_impl_scan_blanks m_strings_TrimLeft
  rw [show (decide ((⟨#[32]⟩ : ByteArray) = ⟨#[32]⟩)) = true from decide_eq_true rfl]
  simp only [chk, cond_true, Option.bind_some, trim_mk, mkB_size]
  congr 2
  rw [Bool.eq_iff_iff, decide_eq_true_iff, decide_eq_true_iff]; omega
theorem mkB_empty {l : List UInt8} : (decide (mkB l = (⟨#[]⟩ : ByteArray))) = decide (l = []) := by
  rw [Bool.eq_iff_iff, decide_eq_true_iff, decide_eq_true_iff]
  exact ⟨fun h => mkB_inj (b := []) h, fun h => by rw [h]; rfl⟩
theorem word_tr (l : List UInt8) (hl : l.length ≤ 2 ^ 30) (bad : Bool) : Tr (fun m => m_impl_scan_word m ⟨mkB l, bad⟩) (mkB (wrd l), ⟨mkB (rst l), bad⟩) := by
  have hw := wrd_le l
  have fin : Tr (fun m => m_impl_scan_word_j1 m ⟨mkB l, bad⟩ ((wrd l).length : Int)) (mkB (wrd l), ⟨mkB (rst l), bad⟩) := by
    refine Tr.step (fun m => by rw [m_impl_scan_word_j1]) (Tr.of fun m => ?_)
    dsimp only
    rw [show (0 : Int) = ((0 : Nat) : Int) from rfl, bsub_mk l (Nat.zero_le _) hw, Option.bind_some, mkB_size, bsub_mk l hw (Nat.le_refl _), Option.bind_some, List.take_length, List.drop_zero, ← wrd_take, ← rst_drop]
  have hi : ∀ m, m_strings_IndexAny m (mkB l) (⟨#[32, 40, 41, 123, 125]⟩ : ByteArray) = some (Lib.indexAny l [32, 40, 41, 123, 125]) := fun m => by
    unfold m_strings_IndexAny
    rw [mkB_size, decide_eq_true (by omega), decide_eq_true rfl, mkB_list]
    rfl
  refine Tr.eq (fun m => by unfold m_impl_scan_word; rfl) (Tr.bind (Tr.of hi) ?_)
  rcases indexAny_wr l with ⟨h1, h2⟩ | ⟨h1, h2⟩
  · refine Tr.tt (decide_eq_true (by omega)) ?_
    have e : (wrd l).length = l.length := by
      have := congrArg List.length (wrd_rst l)
      rw [h1, List.append_nil] at this; exact this
    rw [e] at fin
    exact Tr.eq (fun m => by dsimp only; rw [mkB_size]) fin
  · refine Tr.ff (decide_eq_false (by omega)) ?_
    exact Tr.eq (fun m => by rw [h2]) fin
def pfx (l : List UInt8) : ByteArray × Bool := match l with | 123 :: r => (mkB r, true) | _ => (mkB l, false)
theorem pfx_no {l : List UInt8} (h : l.head? ≠ some 123) : pfx l = (mkB l, false) := by
  unfold pfx
  split
  · exact absurd rfl h
  · rfl
theorem prefix_tr (l : List UInt8) : Tr (fun m => m_strings_CutPrefix m (mkB l) (⟨#[123]⟩ : ByteArray)) (pfx l) := by
  refine Tr.of (fun m => ?_)
  unfold m_strings_CutPrefix
  rw [mkB_list]
  refine congrArg some ?_
  unfold Lib.trimPrefix Lib.hasPrefix
  cases l with
  | nil => rfl
  | cons c r =>
    by_cases h : c = 123
    · subst h; rfl
    · have hp : (⟨#[123]⟩ : ByteArray).data.toList.isPrefixOf (c :: r) = false := by
        show ([123] : List UInt8).isPrefixOf (c :: r) = false
        rw [List.isPrefixOf, beq_eq_false_iff_ne.2 (fun e => h e.symm), Bool.false_and]
      rw [hp]
      rw [pfx_no (by simpa using h)]; rfl
theorem cut_tr (l : List UInt8) (hl : l.length ≤ 2 ^ 30) : Tr (fun m => m_strings_Cut m (mkB l) (⟨#[125]⟩ : ByteArray)) (match aft 125 l with | [] => (mkB l, mkB [], false) | _ :: r => (mkB (bef 125 l), mkB r, true)) := by
  refine Tr.of (fun m => ?_)
  unfold m_strings_Cut
  rw [mkB_list, mkB_size, decide_eq_true (by omega), show (⟨#[125]⟩ : ByteArray).data.toList = [125] from rfl, cut_ba]
  simp only [chk, cond_true]
  cases aft 125 l <;> rfl
theorem split_tr (l : List UInt8) (hl : l.length ≤ 2 ^ 30) : Tr (fun m => m_strings_Split m (mkB l) (⟨#[44]⟩ : ByteArray)) ((cutAt 44 l).map mkB) := by
  have hd := Lib.splitB_data (⟨#[44]⟩ : ByteArray) 0 (Lib.countB (mkB l) ⟨#[44]⟩) (mkB l)
  have hc : Lib.countB (mkB l) (⟨#[44]⟩ : ByteArray) = Lib.count l [44] := by unfold Lib.countB; rw [mkB_list]
  rw [mkB_list, hc, show (⟨#[44]⟩ : ByteArray).data.toList = [44] from rfl, splitK_cut 44 _ l (Nat.le_refl _)] at hd
  have he : Lib.splitB (⟨#[44]⟩ : ByteArray) 0 (Lib.countB (mkB l) ⟨#[44]⟩) (mkB l) = (cutAt 44 l).map mkB := by
    rw [hc, ← hd, List.map_map]
    conv => lhs; rw [← List.map_id (Lib.splitB _ _ _ _)]
    exact List.map_congr_left (fun x _ => (mkB_of x).symm)
  have hall := Lib.splitB_all (⟨#[44]⟩ : ByteArray) (by decide) 0 _ (mkB l) rfl
  refine Tr.of (fun m => ?_)
  unfold m_strings_Split
  have hlen := cutAt_len 44 l
  rw [mkB_size, decide_eq_true (by omega), decide_eq_true (by decide), decide_eq_true hall, he, decide_eq_true (by rw [List.length_map]; unfold maxLen; omega)]
  rfl
end Go.Abs
end
section
set_option linter.unusedVariables false
set_option linter.unusedSimpArgs false
set_option maxHeartbeats 4000000
namespace Go.Abs
open Go.Lib (itoa decDigits)
abbrev F0 : Form := Form.mk 0 (⟨#[]⟩ : ByteArray) 0 ([] : List Int) ([] : List Form)
abbrev fNum (n : Int) : Form := Form.mk 2 (⟨#[]⟩ : ByteArray) n ([] : List Int) ([] : List Form)
abbrev fName (w : List UInt8) (ns : List Int) : Form := Form.mk 1 (mkB w) 0 ns ([] : List Form)
abbrev fList (ks : List Form) : Form := Form.mk 3 (⟨#[]⟩ : ByteArray) 0 ([] : List Int) ks
def numsOf : List (List UInt8) → Option (List Int)
  | [] => some []
  | w :: r => match numOf w with
    | none => none
    | some n => match numsOf r with
      | none => none
      | some ns => some ((n : Int) :: ns)
def rdSets (t : List UInt8) : Option (List Int × List UInt8) := match aft 125 t with
  | [] => none
  | _ :: r => match numsOf (cutAt 44 (bef 125 t)) with
    | none => none
    | some ns => bif scOk ns then some (ns, r) else none
def rdAtom (s : List UInt8) : Option (Form × List UInt8) :=
  bif decide ((rst s).head? = some 125) then none else
  match numOf (wrd s) with
  | some n => bif decide ((rst s).head? = some 123) then none else some (fNum n, rst s)
  | none => bif nmOk (mkB (wrd s)) then
      (bif decide ((rst s).head? = some 123) then
        (match rdSets (rst s).tail with
        | none => none
        | some p => some (fName (wrd s) p.1, p.2))
      else some (fName (wrd s) [], rst s))
    else none
mutual
def rd : Nat → Nat → List UInt8 → Option (Form × List UInt8)
  | 0, _, _ => none
  | f + 1, d, s => match skp s with
    | [] => none
    | c :: r => bif decide (d = 0) then none else
      bif decide (c = 40) then (match rl f d r [] with | none => none | some p => some (fList p.1, p.2))
      else rdAtom (c :: r)
def rl : Nat → Nat → List UInt8 → List Form → Option (List Form × List UInt8)
  | 0, _, _, _ => none
  | f + 1, d, s, acc => match skp s with
    | [] => none
    | c :: r => bif decide (c = 41) then some (acc, r) else
      match rd f (d - 1) (c :: r) with
      | none => none
      | some p => rl f d p.2 (acc ++ [p.1])
end
def okH (l : List UInt8) : Prop := l = [] ∨ l.head? = some 32 ∨ l.head? = some 40 ∨ l.head? = some 41
def noH (l : List UInt8) : Prop := l.head? = some 123 ∨ l.head? = some 125
theorem rst_head (l : List UInt8) : okH (rst l) ∨ noH (rst l) := by
  induction l with
  | nil => exact .inl (.inl rfl)
  | cons b l ih =>
    unfold rst at *
    rw [List.dropWhile]
    cases hb : dlm b with
    | false => exact ih
    | true =>
      unfold dlm at hb
      simp at hb
      rcases hb with rfl | rfl | rfl | rfl | rfl
      · exact .inl (.inr (.inl rfl))
      · exact .inl (.inr (.inr (.inl rfl)))
      · exact .inl (.inr (.inr (.inr rfl)))
      · exact .inr (.inl rfl)
      · exact .inr (.inr rfl)
theorem nmOk_len {w : List UInt8} (h : nmOk (mkB w) = true) : 1 ≤ w.length ∧ w.length ≤ 12 := by
  unfold nmOk at h
  simp only [Bool.or_eq_true, decide_eq_true_eq, Bool.and_eq_true] at h
  rcases h with h | h | ⟨_, h⟩
  · obtain rfl := mkB_inj (b := [46, 46, 46]) h; decide
  · obtain rfl := mkB_inj (b := [95]) h; decide
  · unfold nmSz at h
    rw [mkB_size] at h
    simp only [Bool.and_eq_true, decide_eq_true_eq] at h
    omega
theorem isOk_list {ks : List Form} {d : Nat} (hd : d ≠ 0) : (fList ks).isOk d = alls (fun x => x.isOk (d - 1)) ks := by
  rw [Form.isOk_eq, decide_eq_false hd]; rfl
theorem isOk_num {n : Int} {d : Nat} (hd : d ≠ 0) : (fNum n).isOk d = (decide (0 ≤ n) && decide (n ≤ 999)) := by
  rw [Form.isOk_eq, decide_eq_false hd]
  show (true && ((decide (0 ≤ n) && decide (n ≤ 999)) && (true && true))) = _
  simp
theorem isOk_nm {w : List UInt8} {ns : List Int} {d : Nat} (hd : d ≠ 0) : (fName w ns).isOk d = (nmOk (mkB w) && scOk ns) := by
  rw [Form.isOk_eq, decide_eq_false hd]
  show (nmOk (mkB w) && (true && (scOk ns && true))) = _
  simp
def ImpOk (e : Option (Form × List UInt8)) (s : List UInt8) (d : Nat) (f : Form) (free : Bool) (sc : scan) : Prop :=
  ∃ l, sc.s = mkB l ∧ l.length ≤ s.length ∧ (sc.bad = false → f.fit ∧ f.w + 1 + 2 * l.length ≤ 2 * s.length) ∧
    match e with
    | some p => f = p.1 ∧ sc.bad = false ∧ l = p.2 ∧ (free = true ∨ okH l)
    | none => sc.bad = true ∨ f.isOk d = false ∨ (free = false ∧ noH l)
def ImpOkL (e : Option (List Form × List UInt8)) (s : List UInt8) (acc : List Form) (d : Nat) (f : Form) (free : Bool) (sc : scan) : Prop :=
  ∃ l, sc.s = mkB l ∧ l.length ≤ s.length ∧ (sc.bad = false → free = true ∧ f.fit ∧ f.w + 1 + 2 * l.length ≤ 2 * s.length + Form.ws acc) ∧
    match e with
    | some p => f = fList p.1 ∧ sc.bad = false ∧ l = p.2
    | none => sc.bad = true ∨ f.isOk d = false
theorem cutAt_mem (c : UInt8) : ∀ (l w : List UInt8), w ∈ cutAt c l → w.length ≤ l.length
  | [], w, h => by simp [cutAt] at h; subst h; exact Nat.le_refl _
  | x :: r, w, h => by
    have ih := cutAt_mem c r
    rw [cutAt] at h
    split at h
    · rcases List.mem_cons.1 h with rfl | h
      · simp
      · have := ih w h; rw [List.length_cons]; omega
    · split at h
      · simp at h; subst h; simp
      · rename_i y ys he
        rw [he] at ih
        rcases List.mem_cons.1 h with rfl | h
        · have := ih y (List.mem_cons_self ..); simp only [List.length_cons]; omega
        · have := ih w (List.mem_cons_of_mem _ h); rw [List.length_cons]; omega
theorem imp_nums (v34 : ByteArray × scan) (v41 : ByteArray × ByteArray × Bool) (ps : List (List UInt8)) (hps : ∀ w ∈ ps, w.length ≤ 2 ^ 40) (hlen : ps.length ≤ 2 ^ 30) :
    ∀ (t : List (List UInt8)) (k : Nat) (bad : Bool) (ns : List Int), ps.drop k = t → k ≤ ps.length → ns.length = k →
      TQ (fun m => m_impl_scan_form_l7 m v34 v41 (ps.map mkB) (k : Int) bad ns) (fun r => ∃ ns' bad', r = (Form.mk 1 v34.1 0 (ns ++ ns') ([] : List Form), true, ⟨v41.2.1, bad'⟩) ∧ ns'.length = t.length ∧ (bad = true → bad' = true) ∧
        (bad = false → match numsOf t with | none => bad' = true | some l => (bad' = false ∧ ns' = l) ∨ (bad' = true ∧ ∃ x ∈ l, (99 : Int) < x))) := by
  intro t
  induction t with
  | nil =>
    intro k bad ns hd hk hn
    have hk' : k = ps.length := by have := List.drop_eq_nil_iff.1 hd; omega
    refine TQ.step (fun m => by rw [m_impl_scan_form_l7, List.length_map, hk', ltN_self, cond_false]) (TQ.val ⟨[], bad, by rw [List.append_nil], rfl, fun h => h, fun h => ?_⟩)
    rw [numsOf]; exact .inl ⟨h, rfl⟩
  | cons w r ih =>
    intro k bad ns hd hk hn
    obtain ⟨hc, hk2, hd2⟩ := dropC hd
    obtain ⟨v, b, h1, h2⟩ := number_tr w (hps w (List.mem_of_getElem? hc)) 99 (by omega)
    have h1 : Tr (fun m => m_impl_number m (mkB w) 99) (v, b) := h1
    have hidx : idx (ps.map mkB) (k : Int) = some (mkB w) := idx_nat (by rw [List.getElem?_map, hc]; rfl)
    refine TQ.step (fun m => by rw [m_impl_scan_form_l7, List.length_map, ltN hk2, cond_true, hidx, Option.bind_some]) (TQ.ev (v := (v, b)) h1 ?_)
    have go : ∀ b2 : Bool, (bad = true → b2 = true) → (bad = false → b2 = !b) → TQ (fun m => m_impl_scan_form_j8 m v34 v41 (ps.map mkB) (k : Int) ns (v, b) b2) (fun r' => ∃ ns' bad', r' = (Form.mk 1 v34.1 0 (ns ++ ns') ([] : List Form), true, ⟨v41.2.1, bad'⟩) ∧ ns'.length = (w :: r).length ∧ (bad = true → bad' = true) ∧
        (bad = false → match numsOf (w :: r) with | none => bad' = true | some l => (bad' = false ∧ ns' = l) ∨ (bad' = true ∧ ∃ x ∈ l, (99 : Int) < x))) := by
      intro b2 hb1 hb2
      refine TQ.step (fun m => by rw [m_impl_scan_form_j8, succN]) (TQ.chk (decide_eq_true (by simp only [List.length_singleton]; omega)) ?_)
      refine TQ.mono (ih (k + 1) b2 (ns ++ [v]) hd2 (by omega) (by rw [List.length_append, List.length_singleton]; omega)) ?_
      rintro r' ⟨ns', bad', rfl, e1, e2, e3⟩
      refine ⟨v :: ns', bad', by rw [List.append_assoc]; rfl, by rw [List.length_cons, List.length_cons, e1], fun h => e2 (hb1 h), fun h => ?_⟩
      have hb := hb2 h
      rw [numsOf]
      cases hn2 : numOf w with
      | none =>
        rw [hn2] at h2
        exact e2 (by rw [hb, h2]; rfl)
      | some n =>
        rw [hn2] at h2
        rcases h2 with ⟨h3, h4, h5⟩ | ⟨h3, h4⟩
        · have e4 := e3 (by rw [hb, h3]; rfl)
          cases hr : numsOf r with
          | none => rw [hr] at e4; exact e4
          | some l =>
            rw [hr] at e4
            rcases e4 with ⟨e5, e6⟩ | ⟨e5, x, e6, e7⟩
            · exact .inl ⟨e5, by rw [e6, h4]⟩
            · exact .inr ⟨e5, x, List.mem_cons_of_mem _ e6, e7⟩
        · have e5 := e2 (by rw [hb, h3]; rfl)
          cases hr : numsOf r with
          | none => exact e5
          | some l => exact .inr ⟨e5, n, List.mem_cons_self .., by omega⟩
    cases bad with
    | true => exact TQ.eq (fun m => by rw [cond_true]) (go true (fun _ => rfl) (fun h => by cases h))
    | false => exact TQ.eq (fun m => by rw [cond_false]) (go (!b) (fun h => by cases h) (fun _ => rfl))
theorem imp_atom (s : List UInt8) (d : Nat) (hd : d ≠ 0) (hs : s.length ≤ 2 ^ 20) (x2 : Int) (b0 : Bool) (c : UInt8) (r : List UInt8) (hsc : s = c :: r) (hc : c ≠ 40) :
    TQ (fun m => m_impl_scan_form_j1 m x2 (b0, ⟨mkB s, false⟩) false) (fun q => ImpOk (rdAtom s) s d q.1 q.2.1 q.2.2) := by
  have hw := wrd_le s
  have hr := rst_le s
  have hwr := congrArg List.length (wrd_rst s)
  rw [List.length_append] at hwr
  refine TQ.step (fun m => by rw [m_impl_scan_form_j1, cond_false]) ?_
  have hbi : Tr (fun _ : Nat => bidx (mkB s) 0) (c.toNat : Int) := Tr.of fun m => bidx_mk (w := s) (k := 0) (x := c) (by rw [hsc]; rfl)
  refine TQ.ev hbi ?_
  have hc40 : ¬ (c.toNat : Int) = 40 := fun e => by
    have e2 : c.toNat = 40 := by omega
    exact hc (UInt8.toNat_inj.1 (by rw [e2]; rfl))
  refine TQ.eq (fun m => by rw [decide_eq_false hc40, cond_false]) (TQ.ev (word_tr s (by omega) false) ?_)
  obtain ⟨v, b, h1, h2⟩ := number_tr (wrd s) (by omega) 999 (Nat.le_refl _)
  have h1 : Tr (fun m => m_impl_number m (mkB (wrd s)) 999) (v, b) := h1
  refine TQ.ev h1 ?_
  dsimp only
  cases hn : numOf (wrd s) with
  | some n =>
    rw [hn] at h2
    obtain ⟨hn9, hdec⟩ := numOf_some.1 hn
    rcases h2 with ⟨rfl, rfl, _⟩ | ⟨_, h3⟩
    · have hw1 : 1 ≤ (wrd s).length := by
        rw [← hdec]
        cases hx : decDigits n with
        | nil => exact absurd hx (decD_ne n)
        | cons _ _ => simp
      refine TQ.eq (fun m => by rw [cond_true]) (TQ.val ⟨rst s, rfl, hr, fun _ => ⟨by simp [Form.fit, Form.fits]; decide, by show 1 + 0 + 0 + 1 + 2 * (rst s).length ≤ 2 * s.length; omega⟩, ?_⟩)
      unfold rdAtom
      by_cases h125 : (rst s).head? = some 125
      · rw [decide_eq_true h125, cond_true]; exact .inr (.inr ⟨rfl, .inr h125⟩)
      · rw [decide_eq_false h125, cond_false, hn]
        dsimp only
        by_cases h123 : (rst s).head? = some 123
        · rw [decide_eq_true h123, cond_true]; exact .inr (.inr ⟨rfl, .inl h123⟩)
        · rw [decide_eq_false h123, cond_false]
          refine ⟨rfl, rfl, rfl, .inr ?_⟩
          rcases rst_head s with h | h | h
          · exact h
          · exact absurd h h123
          · exact absurd h h125
    · omega
  | none =>
    rw [hn] at h2
    subst h2
    refine TQ.eq (fun m => by rw [cond_false]) (TQ.ev (implNm_tr (mkB (wrd s)) (by rw [mkB_size]; omega)) ?_)
    cases hnm : nmOk (mkB (wrd s)) with
    | false =>
      refine TQ.eq (fun m => by rw [Bool.not_false, cond_true]) (TQ.val (v := (F0, false, ⟨mkB (rst s), true⟩)) ⟨rst s, rfl, hr, fun h => (by cases h), ?_⟩)
      have : rdAtom s = none := by
        unfold rdAtom
        rw [hn, hnm]
        cases decide ((rst s).head? = some 125) <;> rfl
      rw [this]
      exact .inl rfl
    | true =>
      have hw1 := nmOk_len hnm
      refine TQ.eq (fun m => by rw [Bool.not_true, cond_false]) (TQ.ev (prefix_tr (rst s)) ?_)
      have hat : rdAtom s = bif decide ((rst s).head? = some 125) then none else (bif decide ((rst s).head? = some 123) then
        (match rdSets (rst s).tail with
        | none => none
        | some p => some (fName (wrd s) p.1, p.2))
      else some (fName (wrd s) [], rst s)) := by
        unfold rdAtom; rw [hn, hnm]; rfl
      rw [hat]
      by_cases h123 : (rst s).head? = some 123
      · obtain ⟨t, ht⟩ : ∃ t, rst s = 123 :: t := by
          cases hx : rst s with
          | nil => rw [hx] at h123; cases h123
          | cons y t => rw [hx] at h123; simp at h123; subst h123; exact ⟨t, rfl⟩
        rw [ht] at hr hwr ⊢
        rw [List.length_cons] at hwr
        rw [decide_eq_false (show ¬ (123 :: t : List UInt8).head? = some 125 by simp), cond_false, decide_eq_true (show (123 :: t : List UInt8).head? = some 123 from rfl), cond_true]
        rw [show pfx (123 :: t) = (mkB t, true) from rfl]
        refine TQ.eq (fun m => by rw [Bool.not_true, cond_false]) (TQ.ev (cut_tr t (by omega)) ?_)
        cases ha : aft 125 t with
        | nil =>
          refine TQ.eq (fun m => by rw [cond_false]) (TQ.step (fun m => by rw [m_impl_scan_form_j6]) (TQ.ev (split_tr t (by omega)) ?_))
          refine TQ.mono (imp_nums _ _ (cutAt 44 t) (fun w hw => by have := cutAt_mem 44 t w hw; omega) (by have := cutAt_len 44 t; omega) _ 0 _ [] rfl (Nat.zero_le _) rfl) ?_
          rintro q ⟨ns, bad', rfl, e1, e2, e3⟩
          obtain rfl := e2 rfl
          have : rdSets (123 :: t : List UInt8).tail = none := by
            unfold rdSets; rw [List.tail_cons, ha]
          rw [this]
          exact ⟨[], rfl, Nat.zero_le _, fun h => (by cases h), .inl rfl⟩
        | cons y r2 =>
          have hlt := aft_lt ha
          refine TQ.eq (fun m => by rw [cond_false]) (TQ.step (fun m => by rw [m_impl_scan_form_j6]) (TQ.ev (split_tr (bef 125 t) (by omega)) ?_))
          have hcl := cutAt_len 44 (bef 125 t)
          refine TQ.mono (imp_nums _ _ (cutAt 44 (bef 125 t)) (fun w hw => by have := cutAt_mem 44 _ w hw; omega) (by omega) _ 0 _ [] rfl (Nat.zero_le _) rfl) ?_
          rintro q ⟨ns, bad', rfl, e1, e2, e3⟩
          have e3 := e3 rfl
          rw [List.drop_zero] at e1 e3
          have hsets : rdSets (123 :: t : List UInt8).tail = match numsOf (cutAt 44 (bef 125 t)) with | none => none | some ns => bif scOk ns then some (ns, r2) else none := by
            unfold rdSets; rw [List.tail_cons, ha]
          rw [hsets, List.nil_append]
          refine ⟨r2, rfl, by omega, fun _ => ⟨?_, ?_⟩, ?_⟩
          · simp only [Form.fit, Form.fits, and_true, mkB_size, List.length_nil]; omega
          · show 1 + ns.length + 0 + 1 + 2 * r2.length ≤ 2 * s.length
            omega
          · cases hno : numsOf (cutAt 44 (bef 125 t)) with
            | none => rw [hno] at e3; exact .inl e3
            | some l =>
              rw [hno] at e3
              dsimp only
              rcases e3 with ⟨rfl, rfl⟩ | ⟨e5, x, e6, e7⟩
              · cases hsc2 : scOk ns with
                | true => exact ⟨rfl, rfl, rfl, .inl rfl⟩
                | false => exact .inr (.inl (by rw [isOk_nm hd, hsc2, Bool.and_false]))
              · cases hsc2 : scOk l with
                | true => have := (scOk_all hsc2).1 x e6; omega
                | false => exact .inl e5
      · have hpre := pfx_no h123
        rw [hpre, decide_eq_false h123, cond_false]
        refine TQ.eq (fun m => by rw [Bool.not_false, cond_true]) (TQ.val ⟨rst s, rfl, hr, fun _ => ⟨?_, ?_⟩, ?_⟩)
        · simp only [Form.fit, Form.fits, and_true, mkB_size, List.length_nil]; omega
        · show 1 + 0 + 0 + 1 + 2 * (rst s).length ≤ 2 * s.length
          omega
        · by_cases h125 : (rst s).head? = some 125
          · rw [decide_eq_true h125, cond_true]; exact .inr (.inr ⟨rfl, .inr h125⟩)
          · rw [decide_eq_false h125, cond_false]
            refine ⟨rfl, rfl, rfl, .inr ?_⟩
            rcases rst_head s with h | h | h
            · exact h
            · exact absurd h h123
            · exact absurd h h125
theorem rdAtom_ok {s : List UInt8} {p : Form × List UInt8} {d : Nat} (hd : d ≠ 0) (h : rdAtom s = some p) : p.1.isOk d = true := by
  unfold rdAtom at h
  cases h125 : decide ((rst s).head? = some 125) with
  | true => rw [h125] at h; cases h
  | false =>
    rw [h125, cond_false] at h
    cases hn : numOf (wrd s) with
    | some n =>
      rw [hn] at h
      dsimp only at h
      cases h123 : decide ((rst s).head? = some 123) with
      | true => rw [h123] at h; cases h
      | false =>
        rw [h123, cond_false] at h; cases h
        rw [isOk_num hd, decide_eq_true (by omega), decide_eq_true (by have := (numOf_some.1 hn).1; omega)]; rfl
    | none =>
      rw [hn] at h
      dsimp only at h
      cases hnm : nmOk (mkB (wrd s)) with
      | false => rw [hnm] at h; cases h
      | true =>
        rw [hnm, cond_true] at h
        cases h123 : decide ((rst s).head? = some 123) with
        | true =>
          rw [h123, cond_true] at h
          cases hs : rdSets (rst s).tail with
          | none => rw [hs] at h; cases h
          | some q =>
            rw [hs] at h; cases h
            rw [isOk_nm hd, hnm]
            unfold rdSets at hs
            split at hs
            · cases hs
            · split at hs
              · cases hs
              · rename_i ns _
                cases hsc : scOk ns with
                | false => rw [hsc] at hs; cases hs
                | true => rw [hsc, cond_true] at hs; cases hs; rw [hsc]; rfl
        | false =>
          rw [h123, cond_false] at h; cases h
          rw [isOk_nm hd, hnm]; rfl
theorem alls_app {α : Type} (D : α → Bool) (a b : List α) : alls D (a ++ b) = (alls D a && alls D b) := by
  rw [Bool.eq_iff_iff, Bool.and_eq_true, alls_iff, alls_iff, alls_iff]
  constructor
  · exact fun h => ⟨fun x hx => h x (List.mem_append_left _ hx), fun x hx => h x (List.mem_append_right _ hx)⟩
  · rintro ⟨h1, h2⟩ x hx
    rcases List.mem_append.1 hx with h | h
    · exact h1 x h
    · exact h2 x h
theorem rd_ok : ∀ f : Nat, (∀ d s p, rd f d s = some p → p.1.isOk d = true) ∧ (∀ d s acc p, d ≠ 0 → alls (fun x => x.isOk (d - 1)) acc = true → rl f d s acc = some p → alls (fun x => x.isOk (d - 1)) p.1 = true) := by
  intro f
  induction f with
  | zero => exact ⟨fun d s p h => (by rw [rd] at h; cases h), fun d s acc p _ _ h => (by rw [rl] at h; cases h)⟩
  | succ f ih =>
    refine ⟨fun d s p h => ?_, fun d s acc p hd ha h => ?_⟩
    · rw [rd] at h
      split at h
      · cases h
      · rename_i c r _
        by_cases hd : d = 0
        · rw [decide_eq_true hd] at h; cases h
        · rw [decide_eq_false hd, cond_false] at h
          cases hc : decide (c = 40) with
          | true =>
            rw [hc, cond_true] at h
            cases hl : rl f d r [] with
            | none => rw [hl] at h; cases h
            | some q =>
              rw [hl] at h; cases h
              rw [isOk_list hd]
              exact ih.2 d r [] q hd rfl hl
          | false => rw [hc, cond_false] at h; exact rdAtom_ok hd h
    · rw [rl] at h
      split at h
      · cases h
      · rename_i c r _
        cases hc : decide (c = 41) with
        | true => rw [hc, cond_true] at h; cases h; exact ha
        | false =>
          rw [hc, cond_false] at h
          cases hr : rd f (d - 1) (c :: r) with
          | none => rw [hr] at h; cases h
          | some q =>
            rw [hr] at h
            refine ih.2 d q.2 _ p hd ?_ h
            rw [alls_app, ha, Bool.true_and, alls, ih.1 _ _ _ hr]; rfl
theorem imp_bad (x2 : Int) (free : Bool) (s : List UInt8) (acc : List Form) : Tr (fun m => m_impl_scan_form_l2 m x2 free (mkB s) true acc) (F0, false, ⟨mkB (skp s), true⟩) := by
  refine Tr.step (fun m => by rw [m_impl_scan_form_l2]) (Tr.bind (blanks_tr s true) ?_)
  have h : ∀ b, Tr (fun m => m_impl_scan_form_j3 m x2 acc b (mkB (skp s)) true) (F0, false, ⟨mkB (skp s), true⟩) := fun b =>
    Tr.step (fun m => by rw [m_impl_scan_form_j3, cond_true]) (Tr.step (fun m => by rw [m_impl_scan_form_j4, cond_true]) Tr.val)
  dsimp only
  cases decide ((skp s).length < s.length) with
  | true => exact Tr.tt rfl (h true)
  | false => exact Tr.ff rfl (h free)
theorem ImpOk.mono {e : Option (Form × List UInt8)} {s s' : List UInt8} {d : Nat} {f : Form} {free : Bool} {sc : scan} (h : ImpOk e s d f free sc) (hs : s.length ≤ s'.length) : ImpOk e s' d f free sc := by
  obtain ⟨l, h1, h2, h3, h4⟩ := h
  exact ⟨l, h1, by omega, fun hb => ⟨(h3 hb).1, by have := (h3 hb).2; omega⟩, h4⟩
theorem w_pos' (f : Form) : 1 ≤ f.w := by obtain ⟨a, b, c, d, e⟩ := f; rw [Form.w]; omega
theorem byte_ne {c : UInt8} {k : Nat} (hk : k < 256) (h : c ≠ UInt8.ofNat k) : ¬ (c.toNat : Int) = (k : Int) := fun e => h (UInt8.toNat_inj.1 (by rw [UInt8.toNat_ofNat']; omega))
theorem imp_read : ∀ f : Nat,
    (∀ (d : Nat) (s : List UInt8), d ≤ 40 → s.length ≤ 2 ^ 20 → 2 * s.length ≤ f → TQ (fun m => m_impl_scan_form m ⟨mkB s, false⟩ (41 - (d : Int))) (fun q => ImpOk (rd f d s) s d q.1 q.2.1 q.2.2)) ∧
    (∀ (d : Nat) (s : List UInt8) (acc : List Form) (free : Bool) (e : Option (List Form × List UInt8)), d ≤ 40 → d ≠ 0 → s.length ≤ 2 ^ 20 → 2 * s.length + 1 ≤ f → Form.fits acc → Form.ws acc + 2 * s.length ≤ 2 ^ 22 →
      ((e = none ∧ (alls (fun x => x.isOk (d - 1)) acc = false ∨ (free = false ∧ noH s))) ∨ (e = rl f d s acc ∧ alls (fun x => x.isOk (d - 1)) acc = true ∧ (free = true ∨ okH s))) →
      TQ (fun m => m_impl_scan_form_l2 m (41 - (d : Int)) free (mkB s) false acc) (fun q => ImpOkL e s acc d q.1 q.2.1 q.2.2)) := by
  intro f
  induction f with
  | zero =>
    refine ⟨fun d s hd hs hf => ?_, fun d s acc free e hd hd0 hs hf => by omega⟩
    obtain rfl := List.eq_nil_of_length_eq_zero (l := s) (by omega)
    refine TQ.step (fun m => by rw [m_impl_scan_form]) (TQ.ev (blanks_tr [] false) ?_)
    refine TQ.eq (fun m => by rw [show (decide ((((decide ((skp []).length < ([] : List UInt8).length), ({ s := mkB (skp []), bad := false } : scan)) : Bool × scan).2).s = (⟨#[]⟩ : ByteArray))) = true from decide_eq_true rfl, cond_true]) ?_
    refine TQ.step (fun m => by rw [m_impl_scan_form_j1, cond_true]) (TQ.val ⟨[], rfl, Nat.le_refl _, fun h => (by cases h), ?_⟩)
    rw [rd]; exact .inl rfl
  | succ f ih =>
    refine ⟨fun d s hd hs hf => ?_, fun d s acc free e hd hd0 hs hf hfit hws he => ?_⟩
    · have hk := skp_le s
      refine TQ.step (fun m => by rw [m_impl_scan_form]) (TQ.ev (blanks_tr s false) ?_)
      rw [rd]
      dsimp only
      generalize decide ((skp s).length < s.length) = b0
      cases hsk : skp s with
      | nil =>
        refine TQ.eq (fun m => by rw [show (decide (mkB [] = (⟨#[]⟩ : ByteArray))) = true from decide_eq_true rfl, cond_true]) ?_
        exact TQ.step (fun m => by rw [m_impl_scan_form_j1, cond_true]) (TQ.val ⟨[], rfl, Nat.zero_le _, fun h => (by cases h), .inl rfl⟩)
      | cons c r =>
        rw [hsk, List.length_cons] at hk
        dsimp only
        refine TQ.eq (fun m => by rw [mkB_empty, decide_eq_false (by simp), cond_false]) ?_
        by_cases hd0 : d = 0
        · subst hd0
          rw [decide_eq_true rfl, cond_true]
          refine TQ.eq (fun m => by rw [decide_eq_true (by omega)]) ?_
          exact TQ.step (fun m => by rw [m_impl_scan_form_j1, cond_true]) (TQ.val ⟨c :: r, rfl, by rw [List.length_cons]; omega, fun h => (by cases h), .inl rfl⟩)
        · rw [decide_eq_false hd0, cond_false]
          refine TQ.eq (fun m => by rw [decide_eq_false (by omega)]) ?_
          by_cases hc : c = 40
          · subst hc
            rw [decide_eq_true rfl, cond_true]
            refine TQ.step (fun m => by rw [m_impl_scan_form_j1, cond_false]) ?_
            have hbi : Tr (fun _ : Nat => bidx (mkB (40 :: r)) 0) 40 := Tr.of fun m => bidx_mk (w := 40 :: r) (k := 0) (x := 40) rfl
            have hbs : Tr (fun _ : Nat => bsub (mkB (40 :: r)) 1 ((mkB (40 :: r)).size : Int)) (mkB r) := Tr.of fun m => by
              rw [mkB_size]; have := bsub_mk (40 :: r) (i := 1) (j := (40 :: r : List UInt8).length) (by simp) (Nat.le_refl _); rw [List.take_length] at this; exact this
            refine TQ.ev hbi (TQ.eq (fun m => by rw [show decide ((40 : Int) = 40) = true from rfl, cond_true]) (TQ.ev hbs ?_))
            refine TQ.mono ((ih.2 d r [] true (rl f d r []) hd hd0 (by omega) (by omega) Form.fits_nil (by rw [Form.ws]; omega) (.inr ⟨rfl, rfl, .inl rfl⟩))) ?_
            rintro ⟨g, fr, sc⟩ ⟨l, h1, h2, h3, h4⟩
            refine ⟨l, h1, by omega, fun hb => ⟨(h3 hb).2.1, by have := (h3 hb).2.2; rw [Form.ws] at this; omega⟩, ?_⟩
            cases hrl : rl f d r [] with
            | none =>
              rw [hrl] at h4
              rcases h4 with h4 | h4
              · exact .inl h4
              · exact .inr (.inl h4)
            | some p =>
              rw [hrl] at h4
              exact ⟨h4.1, h4.2.1, h4.2.2, .inl (h3 h4.2.1).1⟩
          · rw [decide_eq_false hc, cond_false]
            exact TQ.mono (imp_atom (c :: r) d hd0 (by rw [List.length_cons]; omega) _ b0 c r rfl hc) (fun q hq => hq.mono (by rw [List.length_cons]; omega))
    · have hk := skp_le s
      refine TQ.step (fun m => by rw [m_impl_scan_form_l2]) (TQ.ev (blanks_tr s false) ?_)
      dsimp only
      -- what is known behind the blanks
      have key : ∀ fr : Bool, ((e = none ∧ (alls (fun x => x.isOk (d - 1)) acc = false ∨ (fr = false ∧ noH (skp s)))) ∨ (e = rl (f + 1) d s acc ∧ alls (fun x => x.isOk (d - 1)) acc = true ∧ (fr = true ∨ okH (skp s)))) →
          TQ (fun m => m_impl_scan_form_j3 m (41 - (d : Int)) acc fr (mkB (skp s)) false) (fun q => ImpOkL e s acc d q.1 q.2.1 q.2.2) := by
        intro fr hfr
        refine TQ.step (fun m => by rw [m_impl_scan_form_j3, cond_false]) ?_
        have hrl : rl (f + 1) d s acc = match skp s with
          | [] => none
          | c :: r => bif decide (c = 41) then some (acc, r) else
            match rd f (d - 1) (c :: r) with
            | none => none
            | some p => rl f d p.2 (acc ++ [p.1]) := by rw [rl]
        rw [hrl] at hfr
        cases hsk : skp s with
        | nil =>
          rw [hsk] at hfr
          refine TQ.eq (fun m => by rw [show (decide (mkB [] = (⟨#[]⟩ : ByteArray))) = true from decide_eq_true rfl]) ?_
          refine TQ.step (fun m => by rw [m_impl_scan_form_j4, cond_true]) (TQ.val ⟨[], rfl, Nat.zero_le _, fun h => (by cases h), ?_⟩)
          have : e = none := by
            rcases hfr with h | h
            · exact h.1
            · exact h.1
          rw [this]; exact .inl rfl
        | cons c r =>
          rw [hsk, List.length_cons] at hk
          rw [hsk] at hfr
          dsimp only at hfr
          have hc32 := skp_head hsk
          refine TQ.eq (fun m => by rw [mkB_empty, decide_eq_false (by simp)]) (TQ.step (fun m => by rw [m_impl_scan_form_j4, cond_false]) ?_)
          have hbi : Tr (fun _ : Nat => bidx (mkB (c :: r)) 0) (c.toNat : Int) := Tr.of fun m => bidx_mk (w := c :: r) (k := 0) (x := c) rfl
          refine TQ.ev hbi ?_
          by_cases hc : c = 41
          · subst hc
            have hbs : Tr (fun _ : Nat => bsub (mkB (41 :: r)) 1 ((mkB (41 :: r)).size : Int)) (mkB r) := Tr.of fun m => by
              rw [mkB_size]; have := bsub_mk (41 :: r) (i := 1) (j := (41 :: r : List UInt8).length) (by simp) (Nat.le_refl _); rw [List.take_length] at this; exact this
            refine TQ.eq (fun m => by rw [show decide (((41 : UInt8).toNat : Int) = 41) = true from rfl, cond_true]) (TQ.ev hbs ?_)
            refine TQ.val (v := (fList acc, true, scan.mk (mkB r) false)) ?_
            refine ⟨r, rfl, by omega, fun _ => ⟨rfl, ?_, ?_⟩, ?_⟩
            · show (fList acc).fit
              rw [Form.fit]
              have := Form.ws_len acc
              exact ⟨by decide, by decide, by omega, hfit⟩
            · show 1 + 0 + Form.ws acc + 1 + 2 * r.length ≤ 2 * s.length + Form.ws acc
              omega
            · rw [decide_eq_true rfl, cond_true] at hfr
              rcases hfr with ⟨rfl, h | ⟨_, h | h⟩⟩ | ⟨rfl, _⟩
              · exact .inr (by rw [isOk_list hd0]; exact h)
              · exact absurd (Option.some.inj h) (by decide)
              · exact absurd (Option.some.inj h) (by decide)
              · exact ⟨rfl, rfl, rfl⟩
          · have hc41 : ¬ (c.toNat : Int) = 41 := byte_ne (k := 41) (by decide) hc
            rw [decide_eq_false hc, cond_false] at hfr
            refine TQ.eq (fun m => by rw [decide_eq_false hc41, cond_false]) ?_
            -- one more form is read
            have go : ((e = none ∧ alls (fun x => x.isOk (d - 1)) acc = false) ∨ (e = (match rd f (d - 1) (c :: r) with | none => none | some p => rl f d p.2 (acc ++ [p.1])) ∧ alls (fun x => x.isOk (d - 1)) acc = true)) →
                TQ (fun m => m_impl_scan_form_j5 m (41 - (d : Int)) acc (mkB (c :: r)) false false) (fun q => ImpOkL e s acc d q.1 q.2.1 q.2.2) := by
              intro hst
              have hI := ih.1 (d - 1) (c :: r) (by omega) (by rw [List.length_cons]; omega) (by rw [List.length_cons]; omega)
              rw [show (41 : Int) - ((d - 1 : Nat) : Int) = 41 - (d : Int) + 1 by omega] at hI
              refine TQ.step (fun m => by rw [m_impl_scan_form_j5, cond_false, w64_in (by omega)]) (TQ.bind hI ?_)
              rintro ⟨k, nx, sc⟩ ⟨l, h1, h2, h3, h4⟩
              have hal := Form.ws_len acc
              refine TQ.chk (decide_eq_true (by simp only [List.length_singleton]; omega)) ?_
              obtain ⟨s1, bad⟩ := sc
              dsimp only at h1 h3 h4 ⊢
              subst h1
              rw [List.length_cons] at h2 h3
              cases bad with
              | true =>
                refine TQ.mono (Q := fun q => q = (F0, false, ⟨mkB (skp l), true⟩)) ⟨_, imp_bad _ _ _ _, rfl⟩ ?_
                rintro q rfl
                refine ⟨skp l, rfl, by have := skp_le l; omega, fun h => (by cases h), ?_⟩
                have : e = none := by
                  rcases hst with h | h
                  · exact h.1
                  · rw [h.1]
                    cases hrd : rd f (d - 1) (c :: r) with
                    | none => rfl
                    | some p => rw [hrd] at h4; cases h4.2.1
                rw [this]; exact .inl rfl
              | false =>
                obtain ⟨k1, k2⟩ := h3 rfl
                have kp := w_pos' k
                have hl : ∀ e', e' = e → ((e' = none ∧ (alls (fun x => x.isOk (d - 1)) (acc ++ [k]) = false ∨ (nx = false ∧ noH l))) ∨ (e' = rl f d l (acc ++ [k]) ∧ alls (fun x => x.isOk (d - 1)) (acc ++ [k]) = true ∧ (nx = true ∨ okH l))) := by
                  rintro e' rfl
                  rcases hst with ⟨h, h'⟩ | ⟨h, h'⟩
                  · exact .inl ⟨h, .inl (by rw [alls_app, h']; rfl)⟩
                  · cases hrd : rd f (d - 1) (c :: r) with
                    | none =>
                      rw [hrd] at h h4
                      rcases h4 with h4 | h4 | h4
                      · cases h4
                      · exact .inl ⟨h, .inl (by rw [alls_app, h', alls, h4]; rfl)⟩
                      · exact .inl ⟨h, .inr h4⟩
                    | some p =>
                      rw [hrd] at h h4
                      obtain ⟨rfl, _, rfl, h5⟩ := h4
                      exact .inr ⟨h, by rw [alls_app, h', alls, (rd_ok f).1 _ _ _ hrd]; rfl, h5⟩
                have hwa : Form.ws (acc ++ [k]) = Form.ws acc + (1 + k.w) := by rw [Form.ws_append]; rfl
                refine TQ.mono (ih.2 d l (acc ++ [k]) nx e hd hd0 (by omega) (by omega) (Form.fits_app hfit (Form.fits_one k1)) (by omega) (hl e rfl)) ?_
                rintro ⟨g, fr2, sc2⟩ ⟨l2, g1, g2, g3, g4⟩
                exact ⟨l2, g1, by omega, fun hb => ⟨(g3 hb).1, (g3 hb).2.1, by have := (g3 hb).2.2; omega⟩, g4⟩
            cases fr with
            | true =>
              refine TQ.eq (fun m => by rw [Bool.not_true, cond_false]) (go ?_)
              rcases hfr with ⟨h, h' | ⟨h', _⟩⟩ | ⟨h, h', _⟩
              · exact .inl ⟨h, h'⟩
              · cases h'
              · exact .inr ⟨h, h'⟩
            | false =>
              refine TQ.eq (fun m => by rw [Bool.not_false, cond_true]) (TQ.ev hbi ?_)
              by_cases h40 : c = 40
              · subst h40
                refine TQ.eq (fun m => by rw [show decide (((40 : UInt8).toNat : Int) ≠ 40) = false from rfl]) (go ?_)
                rcases hfr with ⟨h, h' | ⟨_, h' | h'⟩⟩ | ⟨h, h', _⟩
                · exact .inl ⟨h, h'⟩
                · exact absurd (Option.some.inj h') (by decide)
                · exact absurd (Option.some.inj h') (by decide)
                · exact .inr ⟨h, h'⟩
              · have hc40 : (c.toNat : Int) ≠ 40 := byte_ne (k := 40) (by decide) h40
                refine TQ.eq (fun m => by rw [decide_eq_true hc40]) ?_
                refine TQ.step (fun m => by rw [m_impl_scan_form_j5, cond_true]) (TQ.val ⟨c :: r, rfl, by rw [List.length_cons]; omega, fun h => (by cases h), ?_⟩)
                have : e = none := by
                  rcases hfr with h | ⟨h, h', h2 | h2⟩
                  · exact h.1
                  · cases h2
                  · rcases h2 with h2 | h2 | h2 | h2 <;> simp at h2
                    · exact absurd h2 hc32
                    · exact absurd h2 h40
                    · exact absurd h2 hc
                rw [this]; exact .inl rfl
      have hsame : ¬ (skp s).length < s.length → skp s = s := fun h => by
        have h1 := skp_sub s
        rw [show s.length - (skp s).length = 0 by omega] at h1; exact h1
      by_cases hb : (skp s).length < s.length
      · refine TQ.eq (fun m => by rw [decide_eq_true hb, cond_true]) (key true ?_)
        rcases he with ⟨h, h' | ⟨_, h'⟩⟩ | ⟨h, h', _⟩
        · exact .inl ⟨h, .inl h'⟩
        · exfalso
          cases s with
          | nil => rcases h' with h' | h' <;> cases h'
          | cons y t =>
            have hy : y ≠ 32 := fun e => by subst e; rcases h' with h' | h' <;> simp at h'
            rw [skp_cons, if_neg hy] at hb; omega
        · exact .inr ⟨h, h', .inl rfl⟩
      · refine TQ.eq (fun m => by rw [decide_eq_false hb, cond_false]) (key free ?_)
        rw [hsame hb]
        exact he
end Go.Abs
end
section
set_option linter.unusedVariables false
set_option linter.unusedSimpArgs false
set_option maxHeartbeats 4000000
namespace Go.Abs
open Go.Lib (itoa decDigits)
theorem wrd_cons (c : UInt8) (l : List UInt8) : wrd (c :: l) = bif dlm c then [] else c :: wrd l := by
  unfold wrd; rw [List.takeWhile]; cases dlm c <;> rfl
theorem rst_cons (c : UInt8) (l : List UInt8) : rst (c :: l) = bif dlm c then c :: l else rst l := by
  unfold rst; rw [List.dropWhile]; cases dlm c <;> rfl
end Go.Abs
end
section
set_option linter.unusedVariables false
set_option linter.unusedSimpArgs false
set_option maxHeartbeats 4000000
namespace Go.Abs
open Go.Lib (itoa decDigits)
theorem nmOk_dig {c : UInt8} {r : List UInt8} (h : c.toNat = 45 ∨ (48 ≤ c.toNat ∧ c.toNat ≤ 57)) : nmOk (mkB (c :: r)) = false := by
  unfold nmOk
  have h1 : ¬ mkB (c :: r) = (⟨#[46, 46, 46]⟩ : ByteArray) := fun e => by
    have := mkB_inj (b := [46, 46, 46]) e
    cases this; revert h; decide
  have h2 : ¬ mkB (c :: r) = (⟨#[95]⟩ : ByteArray) := fun e => by
    have := mkB_inj (b := [95]) e
    cases this; revert h; decide
  have h3 : letterB (c.toNat : Int) (decide (((0 : Nat) : Int) = 0)) = false := by
    unfold letterB
    rw [decide_eq_false (show ¬ (97 : Int) ≤ c.toNat by omega), decide_eq_false (show ¬ (c.toNat : Int) = 42 by omega), decide_eq_false (show ¬ (c.toNat : Int) = 63 by omega), decide_eq_false (show ¬ (c.toNat : Int) = 61 by omega), decide_eq_false (show ¬ (c.toNat : Int) = 43 by omega), decide_eq_false (show ¬ (c.toNat : Int) = 60 by omega)]
    rfl
  rw [decide_eq_false h1, decide_eq_false h2, mkB_list, nmF, h3]; rfl
theorem nmOk_nil : nmOk (mkB []) = false := rfl
end Go.Abs
end
section
set_option linter.unusedVariables false
set_option linter.unusedSimpArgs false
set_option maxHeartbeats 4000000
namespace Go.Abs
def pf (l : List UInt8) : Form × Bool := match rd (2 * l.length + 2) 40 l with
  | some p => bif decide (skp p.2 = []) && decide (p.1.cnt ≤ 400) then (p.1, true) else (F0, false)
  | none => (F0, false)
theorem implParse_tr (l : List UInt8) (hl : l.length ≤ 2 ^ 20) : Tr (fun m => m_impl_ParseForm m (mkB l)) (pf l) := by
  refine TQ.tr (TQ.eq (fun m => by unfold m_impl_ParseForm; rfl) (TQ.bind ((imp_read (2 * l.length + 2)).1 40 l (by omega) hl (by omega)) ?_))
  rintro ⟨f, free, s, bad⟩ ⟨r, h1, h2, h3, h4⟩
  dsimp only at h1
  subst h1
  refine TQ.ev (blanks_tr r bad) ?_
  dsimp only
  unfold pf
  cases bad with
  | true =>
    refine TQ.eq (fun m => by rw [cond_true]) (TQ.val ?_)
    cases he : rd (2 * l.length + 2) 40 l with
    | none => rfl
    | some p => rw [he] at h4; cases h4.2.1
  | false =>
    obtain ⟨k1, k2⟩ := h3 rfl
    have hmk : decide (mkB (skp r) ≠ (⟨#[]⟩ : ByteArray)) = !decide (skp r = []) := by rw [← mkB_empty]; cases h : decide (mkB (skp r) = (⟨#[]⟩ : ByteArray)) <;> simp_all
    refine TQ.eq (fun m => by rw [cond_false, hmk]) ?_
    have hv := implFormValid_tr f k1
    cases he : rd (2 * l.length + 2) 40 l with
    | some p =>
      rw [he] at h4
      obtain ⟨rfl, _, rfl, _⟩ := h4
      have hok := (rd_ok _).1 _ _ _ he
      dsimp only
      by_cases hs : skp p.2 = []
      · rw [decide_eq_true hs, Bool.true_and]
        refine TQ.eq (fun m => by rw [Bool.not_true, cond_false]) (TQ.ev hv ?_)
        unfold Form.valid
        rw [hok, Bool.true_and]
        cases decide (p.1.cnt ≤ 400) with
        | true => exact TQ.eq (fun m => by rw [Bool.not_true, cond_false]; rfl) (TQ.val rfl)
        | false => exact TQ.eq (fun m => by rw [Bool.not_false, cond_true]; rfl) (TQ.val rfl)
      · rw [decide_eq_false hs, Bool.false_and]
        exact TQ.eq (fun m => by rw [Bool.not_false, cond_true]; rfl) (TQ.val rfl)
    | none =>
      rw [he] at h4
      dsimp only
      by_cases hs : skp r = []
      · rw [decide_eq_true hs]
        refine TQ.eq (fun m => by rw [Bool.not_true, cond_false]) (TQ.ev hv ?_)
        have : f.valid = false := by
          unfold Form.valid
          rcases h4 with h4 | h4 | ⟨_, h4⟩
          · cases h4
          · rw [h4]; rfl
          · exfalso
            rw [skp_id (by rcases h4 with h4 | h4 <;> rw [h4] <;> decide)] at hs
            subst hs
            rcases h4 with h4 | h4 <;> cases h4
        rw [this]
        exact TQ.eq (fun m => by rw [Bool.not_false, cond_true]) (TQ.val rfl)
      · rw [decide_eq_false hs]
        exact TQ.eq (fun m => by rw [Bool.not_false, cond_true]) (TQ.val rfl)
end Go.Abs
end
