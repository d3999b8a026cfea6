/- A part of the proof: what the functions that the law calls answer, as pure values. -/
import Derived.Test.YtcebadpiebamdaaK433bdd507a07
import Derived.Test.YtcebadpiebamdaaK68f778bbd61f
import Derived.Test.YtcebadpiebamdaaKfcac416416ee
set_option linter.unusedSimpArgs false
set_option linter.unusedVariables false
section
set_option linter.unusedVariables false
set_option linter.unusedSimpArgs false
set_option maxHeartbeats 4000000
namespace Go.Abs
section
variable {α : Type}
theorem mk_lt_mid (d : List α) (x : α) (xs : List α) : decide ((d.length : Int) < ((d ++ x :: xs).length : Int)) = true := by simp; omega
theorem mk_lt_end (d : List α) : decide ((d.length : Int) < ((d ++ []).length : Int)) = false := by simp
theorem mk_idx_mid (d : List α) (x : α) (xs : List α) : idx (d ++ x :: xs) (d.length : Int) = some x := idx_nat (by simp)
theorem mk_set_mid (d : List α) (x y : α) (xs : List α) : (d ++ x :: xs).set ((d.length : Int)).toNat y = d ++ y :: xs := by simp
theorem mk_mid_app (d : List α) (y : α) (xs : List α) : d ++ y :: xs = (d ++ [y]) ++ xs := by simp
theorem mk_mid_len (d : List α) (y : α) : (d.length : Int) + 1 = ((d ++ [y]).length : Int) := by simp
theorem mk_mid_lenw (d : List α) (y : α) (h : d.length ≤ 4611686018427387904) : w64 ((d.length : Int) + 1) = ((d ++ [y]).length : Int) := by
  rw [w64_in (by omega)]; simp
end
theorem mk_wIn {k : Int} (h0 : 0 ≤ k) (h1 : k ≤ 4611686018427387904) : w64 (k + 1) = k + 1 := w64_in (by omega)
theorem mk_ne_self_f {α : Type} [DecidableEq α] (x : α) : decide (x ≠ x) = false := by simp
theorem mk_not_neg {k : Int} (h : 0 ≤ k) : decide (k < 0) = false := by simpa using h
theorem markText_loop : ∀ (n : Nat) (k : Nat) (s : ByteArray), k < 2 ^ n → s.size + n ≤ 1000 → n ≤ 63 → ∃ t, Tr (fun m => m_laws_markText_l1 m (k : Int) s) t := by
  intro n
  induction n with
  | zero =>
    intro k s hk hs hn
    have : k = 0 := by omega
    subst this
    refine ⟨(⟨#[109]⟩ : ByteArray) ++ s, Tr.step (fun m => by rw [m_laws_markText_l1, show decide ((0 : Int) < ((0 : Nat) : Int)) = false from rfl, cond_false]) (Tr.of fun m => ?_)⟩
    · rw [bcat, decide_eq_true (by have : (⟨#[109]⟩ : ByteArray).size = 1 := rfl; omega)]; rfl
  | succ n ih =>
    intro k s hk hs hn
    by_cases h0 : k = 0
    · subst h0
      refine ⟨(⟨#[109]⟩ : ByteArray) ++ s, Tr.step (fun m => by rw [m_laws_markText_l1, show decide ((0 : Int) < ((0 : Nat) : Int)) = false from rfl, cond_false]) (Tr.of fun m => ?_)⟩
      · rw [bcat, decide_eq_true (by have : (⟨#[109]⟩ : ByteArray).size = 1 := rfl; omega)]; rfl
    · have hk2 : k / 10 < 2 ^ n := by rw [Nat.pow_succ] at hk; omega
      have hp : (2 : Nat) ^ (n + 1) ≤ 2 ^ 63 := Nat.pow_le_pow_right (by omega) (by omega)
      have hsz : (strOf [(w8 (w64 (48 + ((k : Int).tmod 10))))]).size = 1 := rfl
      have hsz2 : (strOf [(w8 (w64 (48 + ((k : Int).tmod 10))))] ++ s).size = 1 + s.size := by rw [ByteArray.size_append, hsz]
      obtain ⟨t, ht⟩ := ih (k / 10) (strOf [(w8 (w64 (48 + ((k : Int).tmod 10))))] ++ s) hk2 (by rw [hsz2]; omega) (by omega)
      refine ⟨t, Tr.step (fun m => by rw [m_laws_markText_l1, decide_eq_true (show (0 : Int) < (k : Int) by omega), cond_true, bcat, decide_eq_true (by rw [hsz]; omega), cond_true, Option.bind_some]) ?_⟩
      refine Tr.eq (fun m => ?_) ht
      have : w64 ((k : Int).tdiv 10) = ((k / 10 : Nat) : Int) := by
        rw [show ((k : Int).tdiv 10) = ((k / 10 : Nat) : Int) from rfl, w64_in (by omega)]
      rw [this]
theorem markText_tr {k : Int} (h0 : 0 ≤ k) (h1 : k ≤ 4611686018427387905) : ∃ t, Tr (fun m => m_laws_markText m k) t := by
  by_cases hk : k ≤ 0
  · exact ⟨_, Tr.of fun m => by rw [m_laws_markText, decide_eq_true hk]; rfl⟩
  · obtain ⟨n, rfl⟩ := Int.eq_ofNat_of_zero_le h0
    obtain ⟨t, ht⟩ := markText_loop 63 n ⟨#[]⟩ (by omega) (by decide) (Nat.le_refl _)
    exact ⟨t, Tr.eq (fun m => by rw [m_laws_markText, decide_eq_false hk, cond_false]) ht⟩
def MH {α : Type} (M : Nat → List α → Int → Option (Int × List α)) (H : Nat → List α → Int → Option Int) (l : List α) (b : Nat) : Prop :=
  ∀ k : Int, 0 ≤ k → k + b ≤ 4611686018427387904 → ∃ v ys, Tr (fun m => M m l k) (v, ys) ∧ k ≤ v ∧ v ≤ k + b ∧ Tr (fun m => H m ys k) v
theorem markInt_loop : ∀ (xs d : List Int) (k : Int), 0 ≤ k → k + xs.length ≤ 4611686018427387904 → ∃ v ys, Tr (fun m => m_laws_markIntS_l1 m k (d.length : Int) (d ++ xs)) (v, d ++ ys) ∧ k ≤ v ∧ v ≤ k + xs.length ∧ ∀ d' : List Int, Tr (fun m => m_laws_heldIntS_l1 m (d' ++ ys) k (d'.length : Int)) v
  | [], d, k, h0, h1 => ⟨k, [], Tr.step (fun m => by rw [m_laws_markIntS_l1, mk_lt_end, cond_false]) Tr.val, Int.le_refl _, by omega, fun d' => Tr.step (fun m => by rw [m_laws_heldIntS_l1, mk_lt_end, cond_false]) Tr.val⟩
  | x :: xs, d, k, h0, h1 => by
    rw [List.length_cons] at h1
    obtain ⟨v, ys, a1, a2, a3, a4⟩ := markInt_loop xs (d ++ [k]) (k + 1) (by omega) (by omega)
    refine ⟨v, k :: ys, ?_, by omega, by rw [List.length_cons]; omega, fun d' => ?_⟩
    · refine Tr.step (fun m => by rw [m_laws_markIntS_l1, mk_lt_mid, cond_true, mk_idx_mid, Option.bind_some, mk_set_mid]) ?_
      refine Tr.eq (fun m => ?_) (mk_mid_app d k ys ▸ a1)
      rw [mk_wIn h0 (by omega), mk_mid_len d k, mk_mid_app d k xs]
    · refine Tr.step (fun m => by rw [m_laws_heldIntS_l1, mk_lt_mid, cond_true, mk_idx_mid, Option.bind_some, mk_ne_self_f, cond_false]) ?_
      refine Tr.eq (fun m => ?_) (a4 (d' ++ [k]))
      rw [mk_wIn h0 (by omega), mk_mid_len d' k, mk_mid_app d' k ys]
theorem mhInt (l : List Int) : MH m_laws_markIntS m_laws_heldIntS l l.length := fun k h0 h1 => by
  obtain ⟨v, ys, a1, a2, a3, a4⟩ := markInt_loop l [] k h0 h1
  exact ⟨v, ys, Tr.eq (fun m => by unfold m_laws_markIntS; rfl) a1, a2, a3, Tr.eq (fun m => by unfold m_laws_heldIntS; rfl) (a4 [])⟩
theorem markForm_loop : ∀ (xs d : List Form) (k : Int), (∀ x ∈ xs, MH m_laws_markFormS m_laws_heldFormS x.kids (3 * Form.ws x.kids)) → d.length + xs.length ≤ 4611686018427387904 → 0 ≤ k → k + (3 * Form.ws xs : Nat) ≤ 4611686018427387904 →
    ∃ v ys, Tr (fun m => m_laws_markFormS_l1 m k (d.length : Int) (d ++ xs)) (v, d ++ ys) ∧ k ≤ v ∧ v ≤ k + (3 * Form.ws xs : Nat) ∧ ∀ d' : List Form, Tr (fun m => m_laws_heldFormS_l1 m (d' ++ ys) k (d'.length : Int)) v
  | [], d, k, ih, hl, h0, h1 => ⟨k, [], Tr.step (fun m => by rw [m_laws_markFormS_l1, mk_lt_end, cond_false]) Tr.val, Int.le_refl _, by omega, fun d' => Tr.step (fun m => by rw [m_laws_heldFormS_l1, mk_lt_end, cond_false]) Tr.val⟩
  | .mk kd nm nn sc ks :: xs, d, k, ih, hl, h0, h1 => by
    rw [Form.ws, Form.w] at h1
    rw [List.length_cons] at hl
    obtain ⟨t, ht⟩ := markText_tr (k := k + 1) (by omega) (by omega)
    obtain ⟨v1, a, b1, b2, b3, b4⟩ := mhInt sc (k + 1 + 1 + 1) (by omega) (by omega)
    obtain ⟨v2, b, c1, c2, c3, c4⟩ := ih _ (List.mem_cons_self ..) v1 (by omega) (by show v1 + (3 * Form.ws ks : Nat) ≤ _; omega)
    have c3' : v2 ≤ v1 + (3 * Form.ws ks : Nat) := c3
    obtain ⟨v, ys, a1, a2, a3, a4⟩ := markForm_loop xs (d ++ [.mk k t (k + 1 + 1) a b]) v2 (fun x hx => ih x (List.mem_cons_of_mem _ hx)) (by simp; omega) (by omega) (by omega)
    have e1 := mk_wIn h0 (by omega)
    have e2 := mk_wIn (k := k + 1) (by omega) (by omega)
    have e3 := mk_wIn (k := k + 1 + 1) (by omega) (by omega)
    refine ⟨v, .mk k t (k + 1 + 1) a b :: ys, ?_, by omega, by rw [Form.ws, Form.w]; omega, fun d' => ?_⟩
    · refine Tr.step (fun m => by rewrite [m_laws_markFormS_l1]; simp only [Form.kind, Form.name, Form.n, Form.scopes, Form.kids, mk_lt_mid, cond_true, mk_idx_mid, Option.bind_some, mk_set_mid, e1, e2, e3]; rfl) ?_
      refine Tr.bind ht ?_
      refine Tr.bind b1 ?_
      refine Tr.bind c1 ?_
      refine Tr.eq (fun m => ?_) (mk_mid_app d (.mk k t (k + 1 + 1) a b) ys ▸ a1)
      rw [← mk_mid_app, ← mk_mid_lenw _ _ (by omega)]
    · refine Tr.step (fun m => by rewrite [m_laws_heldFormS_l1]; simp only [Form.kind, Form.name, Form.n, Form.scopes, Form.kids, mk_lt_mid, cond_true, mk_idx_mid, Option.bind_some, e1, e2, e3]; rfl) ?_
      refine Tr.ff (mk_ne_self_f k) ?_
      refine Tr.bind ht (Tr.ff (mk_ne_self_f t) (Tr.ff (mk_ne_self_f (k + 1 + 1)) ?_))
      refine Tr.bind b4 (Tr.ff (mk_not_neg (by omega)) ?_)
      refine Tr.bind c4 (Tr.ff (mk_not_neg (by omega)) ?_)
      refine Tr.eq (fun m => ?_) (a4 (d' ++ [.mk k t (k + 1 + 1) a b]))
      rw [← mk_mid_app, ← mk_mid_len]
theorem mhForm_n : ∀ (n : Nat) (l : List Form), Form.ws l ≤ n → MH m_laws_markFormS m_laws_heldFormS l (3 * Form.ws l) := by
  intro n
  induction n with
  | zero =>
    intro l hl k h0 h1
    have hx := Form.ws_len l
    have : l = [] := List.eq_nil_of_length_eq_zero (by omega)
    subst this
    obtain ⟨v, ys, a1, a2, a3, a4⟩ := markForm_loop [] [] k (fun x hx => by cases hx) (by simp) h0 h1
    exact ⟨v, ys, Tr.step (fun m => by rw [m_laws_markFormS]; rfl) a1, a2, a3, Tr.step (fun m => by rw [m_laws_heldFormS]; rfl) (a4 [])⟩
  | succ n ih =>
    intro l hl k h0 h1
    have hx := Form.ws_len l
    obtain ⟨v, ys, a1, a2, a3, a4⟩ := markForm_loop l [] k (fun x hx => ih _ (by
      have := Form.ws_mem hx
      obtain ⟨p1, p2, p3, p4, p5⟩ := x
      rw [Form.w] at this
      show Form.ws p5 ≤ n
      omega)) (by simp only [List.length_nil]; omega) h0 h1
    exact ⟨v, ys, Tr.step (fun m => by rw [m_laws_markFormS]; rfl) a1, a2, a3, Tr.step (fun m => by rw [m_laws_heldFormS]; rfl) (a4 [])⟩
theorem mhForms (l : List Form) : MH m_laws_markFormS m_laws_heldFormS l (3 * Form.ws l) := mhForm_n _ l (Nat.le_refl _)
theorem mhForm (f : Form) (k : Int) (h0 : 0 ≤ k) (h1 : k + (3 * f.w : Nat) ≤ 4611686018427387904) : ∃ v a b, Tr (fun m => m_laws_markForm m f k) (v, a, b) ∧ k ≤ v ∧ v ≤ k + (3 * f.w : Nat) ∧ ∀ kd nm nn, Tr (fun m => m_laws_heldForm m (.mk kd nm nn a b) k) v := by
  obtain ⟨p1, p2, p3, p4, p5⟩ := f
  rw [Form.w] at h1 ⊢
  obtain ⟨v1, a, b1, b2, b3, b4⟩ := mhInt p4 k h0 (by omega)
  obtain ⟨v2, b, c1, c2, c3, c4⟩ := mhForms p5 v1 (by omega) (by omega)
  refine ⟨v2, a, b, ?_, by omega, by omega, fun kd nm nn => ?_⟩
  · refine Tr.eq (fun m => by unfold m_laws_markForm; rfl) ?_
    exact Tr.bind b1 (Tr.bind c1 Tr.val)
  · refine Tr.eq (fun m => by unfold m_laws_heldForm; rfl) ?_
    refine Tr.bind b4 (Tr.ff (mk_not_neg (by omega)) ?_)
    refine Tr.bind c4 (Tr.ff (mk_not_neg (by omega)) Tr.val)
end Go.Abs
end
section
set_option linter.unusedVariables false
set_option linter.unusedSimpArgs false
namespace Go.Abs
theorem fws_le {B : Nat} : ∀ l : List Form, (∀ x ∈ l, x.w ≤ B) → Form.ws l ≤ l.length * (B + 1)
  | [], _ => Nat.zero_le _
  | x :: xs, h => by
    have h1 := h x (by simp)
    have h2 := fws_le xs (fun y hy => h y (by simp [hy]))
    rw [Form.ws, List.length_cons, Nat.succ_mul]; omega
theorem pvars_w (f : Form) (lits : List Form) (hb : f.w ≤ 2 ^ 22) : Form.ws (pvars f lits) ≤ 2 ^ 45 := by
  unfold pvars
  cases patOk f lits with
  | false => exact Nat.zero_le _
  | true =>
  rw [cond_true]
  have h1 := fws_le (f.vs lits) (fun x hx => Form.vs_w lits f x hx)
  have h2 := Form.vd_len lits f 0
  rw [← List.length_map (f := (·.1)), Form.vd_fst] at h2
  have h3 : (f.vs lits).length * (f.w + 1) ≤ 2 ^ 22 * (2 ^ 22 + 1) := Nat.mul_le_mul (by omega) (by omega)
  omega
theorem FnExactPatternVars_law (f : Form) (lits : List Form) (hf : f.fit) (hll : lits.length ≤ 9223372036854775807) (hl : Form.fits lits) : TQ (fun m => m_laws_FnExactPatternVars m f lits) (fun r => r = true) := by
  refine TQ.eq (fun m => by unfold m_laws_FnExactPatternVars; rfl) (TQ.bind (szForm_tq f 1048576 hf (by omega) (by omega)) (fun v hv => ?_))
  rcases hv with rfl | ⟨h0, rfl⟩
  · exact TQ.cond (fun _ => TQ.val rfl) (fun h => absurd h (by decide))
  refine TQ.cond (fun h => absurd h (by rw [geZ h0]; decide)) (fun _ => TQ.bind (szFormS_tq lits _ hll hl h0 (by omega)) (fun v hv => ?_))
  rcases hv with rfl | ⟨h1, rfl⟩
  · exact TQ.cond (fun _ => TQ.val rfl) (fun h => absurd h (by decide))
  refine TQ.cond (fun h => absurd h (by rw [geZ h1]; decide)) (fun _ => ?_)
  have hw := f.w_wt
  have hws := Form.ws_wts lits
  have hb : f.w ≤ 2 ^ 36 := by omega
  have hlb : Form.ws lits ≤ 2 ^ 36 := by omega
  have hr := pvars_w f lits (by omega)
  have tf := toForm_tr f hb
  have tl := toFormS_tr lits hlb
  have ti := implPatternVars_tr f lits hf hb hl
  have es := eqFormS_self (pvars f lits)
  refine ⟨true, ?_, rfl⟩
  obtain ⟨v1, q1, q2, m1, m2, m3, m4⟩ := mhForm f 1 (by omega) (by omega)
  obtain ⟨v2, q3, n1, n2, n3, n4⟩ := mhForms lits v1 (by omega) (by omega)
  obtain ⟨v, ys, a1, a2, a3, a4⟩ := mhForms (pvars f lits) 1 (by omega) (by omega)
  refine Tr.bind tf (Tr.bind tl (Tr.bind (specPatternVars_tr f lits hf hb hl hlb) (Tr.bind tf (Tr.bind tl (Tr.bind ti (Tr.bind es (Tr.ff rfl ?_)))))))
  refine Tr.bind tf (Tr.bind (eqForm_self f) (Tr.ff rfl (Tr.bind tl (Tr.bind (eqFormS_self lits) (Tr.ff rfl (Tr.bind m1 (Tr.bind n1 (Tr.ff (mk_not_neg (by show 0 ≤ v2; omega)) (Tr.bind es ?_)))))))))
  refine Tr.step (fun m => by rw [m_laws_FnExactPatternVars_j1]) ?_
  refine Tr.ff rfl ?_
  refine Tr.bind a1 (Tr.bind a4 (Tr.ff (mk_not_neg (by omega)) (Tr.ff (mk_ne_self_f v) ?_)))
  refine Tr.bind tf (Tr.bind tl (Tr.bind ti (Tr.bind es (Tr.ff rfl ?_))))
  exact Tr.bind a4 (Tr.ff (mk_not_neg (by omega)) (Tr.ff (mk_ne_self_f v) Tr.val))
end Go.Abs
end
