/- A part of the proof: what the functions that the law calls answer, as pure values. -/
import Derived.Lib.SplitLaws
import Derived.Test.YtidbdmpbcpanjaaGreatDoorK064a2fe3a5b4
import Derived.Test.YtidbdmpbcpanjaaGreatDoorK10a31c29eeb6
import Derived.Test.YtidbdmpbcpanjaaGreatDoorK48591414590f
import Derived.Test.YtidbdmpbcpanjaaGreatDoorKe8d4bae0f9e9
set_option linter.unusedSimpArgs false
set_option linter.unusedVariables false
section
set_option linter.unusedVariables false
set_option linter.unusedSimpArgs false
set_option maxHeartbeats 2000000
namespace Go.Abs
open Go.Lib (itoa decDigits)
def dv : Nat → List UInt8 → Option Nat
  | acc, [] => some acc
  | acc, c :: r => bif decide (48 ≤ c.toNat) && decide (c.toNat ≤ 57) then dv (acc * 10 + (c.toNat - 48)) r else none
theorem dv_app (c : UInt8) : ∀ (l : List UInt8) (acc : Nat), dv acc (l ++ [c]) = (dv acc l).bind fun a => dv a [c]
  | [], acc => by rw [List.nil_append, show dv acc [] = some acc from rfl, Option.bind_some]
  | x :: l, acc => by
    rw [List.cons_append, dv, dv, dv_app c l]
    cases decide (48 ≤ x.toNat) && decide (x.toNat ≤ 57) <;> rfl
theorem dig_nat {k : Nat} (h : k < 10) : (UInt8.ofNat (48 + k)).toNat = 48 + k := by
  rw [UInt8.toNat_ofNat']; omega
theorem dv_dig {k : Nat} (h : k < 10) (acc : Nat) (r : List UInt8) : dv acc (UInt8.ofNat (48 + k) :: r) = dv (acc * 10 + k) r := by
  rw [dv, dig_nat h, decide_eq_true (by omega), decide_eq_true (by omega), Bool.and_true, cond_true]
  congr 1; omega
theorem dv_dec : ∀ n : Nat, dv 0 (decDigits n) = some n := by
  intro n
  induction n using Nat.strongRecOn with
  | _ n ih =>
    by_cases h : n < 10
    · rw [Lib.decDigits_one h, dv_dig h, dv]; simp
    · rw [decDigits, dif_neg h, dv_app, ih (n / 10) (by omega), Option.bind_some, dv_dig (by omega), dv]
      congr 1; omega
theorem dv_le : ∀ (l : List UInt8) (acc n : Nat), dv acc l = some n → acc ≤ n
  | [], acc, n, h => by rw [dv] at h; cases h; exact Nat.le_refl _
  | c :: r, acc, n, h => by
    rw [dv] at h
    cases hb : decide (48 ≤ c.toNat) && decide (c.toNat ≤ 57) with
    | false => rw [hb] at h; cases h
    | true => rw [hb, cond_true] at h; have := dv_le r _ n h; omega
theorem dv_cons {c : UInt8} {r : List UInt8} {acc n : Nat} (h : dv acc (c :: r) = some n) : 48 ≤ c.toNat ∧ c.toNat ≤ 57 ∧ dv (acc * 10 + (c.toNat - 48)) r = some n := by
  rw [dv] at h
  cases hb : decide (48 ≤ c.toNat) && decide (c.toNat ≤ 57) with
  | false => rw [hb] at h; cases h
  | true => rw [hb, cond_true] at h; simp at hb; exact ⟨hb.1, hb.2, h⟩
theorem dig_of {c : UInt8} (h1 : 48 ≤ c.toNat) (h2 : c.toNat ≤ 57) : UInt8.ofNat (48 + (c.toNat - 48)) = c := by
  rw [show 48 + (c.toNat - 48) = c.toNat by omega]; simp
theorem dec_dv : ∀ (k : Nat) (w : List UInt8) (n : Nat), w.length ≤ k → dv 0 w = some n → w ≠ [] → (w.head? = some 48 → w.length = 1) → decDigits n = w := by
  intro k
  induction k with
  | zero => intro w n hk h h0; exact absurd (List.eq_nil_of_length_eq_zero (by omega)) h0
  | succ k ih =>
    intro w n hk h h0 hz
    rcases List.eq_nil_or_concat w with rfl | ⟨l, c, rfl⟩
    · exact absurd rfl h0
    · rw [List.concat_eq_append] at *
      rw [dv_app] at h
      cases hl : dv 0 l with
      | none => rw [hl] at h; cases h
      | some a =>
        rw [hl, Option.bind_some] at h
        obtain ⟨h1, h2, h3⟩ := dv_cons h
        rw [dv] at h3; cases h3
        cases l with
        | nil =>
          rw [dv] at hl; cases hl
          rw [Lib.decDigits_one (by omega), List.nil_append, Nat.zero_mul, Nat.zero_add, dig_of h1 h2]
        | cons x l =>
          have hx : x ≠ 48 := fun e => by subst e; have := hz rfl; simp at this
          obtain ⟨x1, x2, x3⟩ := dv_cons hl
          have ha : 1 ≤ a := by
            have := dv_le _ _ _ x3
            have hx2 : x.toNat ≠ 48 := fun e => hx (UInt8.toNat_inj.1 (by rw [e]; rfl))
            omega
          have e1 := ih (x :: l) a (by simp at hk ⊢; omega) hl (by simp) (fun e => by simp at e; exact absurd e hx)
          rw [decDigits, dif_neg (by omega), show (a * 10 + (c.toNat - 48)) / 10 = a by omega, show (a * 10 + (c.toNat - 48)) % 10 = c.toNat - 48 by omega, e1, dig_of h1 h2]
theorem decD_ne (n : Nat) : decDigits n ≠ [] := by
  rw [decDigits]; split <;> simp
def numOf (w : List UInt8) : Option Nat := match dv 0 w with
  | some n => bif decide (decDigits n = w) && decide (n ≤ 999) then some n else none
  | none => none
theorem numOf_some {w : List UInt8} {n : Nat} : numOf w = some n ↔ n ≤ 999 ∧ decDigits n = w := by
  unfold numOf
  constructor
  · intro h
    cases hd : dv 0 w with
    | none => simp [hd] at h
    | some k =>
      simp only [hd] at h
      cases hb : decide (decDigits k = w) && decide (k ≤ 999) with
      | false => rw [hb] at h; cases h
      | true => rw [hb] at h; cases h; simp at hb; exact ⟨hb.2, hb.1⟩
  · rintro ⟨h1, rfl⟩
    simp [dv_dec, h1]
theorem numOf_none {w : List UInt8} (h : numOf w = none) (n : Nat) (hn : n ≤ 999) : decDigits n ≠ w := fun e => by
  rw [numOf_some.2 ⟨hn, e⟩] at h; cases h
theorem parse_dv : ∀ (l : List UInt8) (acc n : Nat), dv acc l = some n → n ≤ 2 ^ 60 → Lib.parseUint10 acc l = .ok n
  | [], acc, n, h, _ => by rw [dv] at h; cases h; rfl
  | c :: r, acc, n, h, hn => by
    obtain ⟨h1, h2, h3⟩ := dv_cons h
    have := dv_le _ _ _ h3
    rw [Lib.parseUint10, if_pos ⟨h1, h2⟩, if_neg (by omega), if_neg (by omega)]
    exact parse_dv r _ n h3 hn
theorem atoi_dec {n : Nat} (hn : n ≤ 999) : Lib.atoiAll (decDigits n) = .ok (n : Int) := by
  have h := dv_dec n
  cases hd : decDigits n with
  | nil => exact absurd hd (decD_ne n)
  | cons c r =>
    rw [hd] at h
    obtain ⟨h1, h2, _⟩ := dv_cons h
    unfold Lib.atoiAll
    dsimp only
    rw [if_neg (by omega)]
    unfold Lib.parseMag
    rw [if_neg (by simp), parse_dv _ _ _ h (by omega)]
    dsimp only
    rw [if_neg (by omega), if_neg (by omega), if_neg (by omega)]
theorem number_tr (w : List UInt8) (hw : w.length ≤ 2 ^ 40) (M : Nat) (hM : M ≤ 999) : ∃ v b, Tr (fun m => m_impl_number m (mkB w) (M : Int)) (v, b) ∧
    (match numOf w with | some n => (b = true ∧ v = (n : Int) ∧ n ≤ M) ∨ (b = false ∧ M < n) | none => b = false) := by
  have hs : (mkB w).size ≤ 140737488355328 := by rw [mkB_size]; omega
  cases hn : numOf w with
  | some n =>
    obtain ⟨h1, rfl⟩ := numOf_some.1 hn
    by_cases hle : n ≤ M
    · refine ⟨n, true, Tr.of fun m => ?_, .inl ⟨rfl, rfl, hle⟩⟩
      unfold m_impl_number
      rw [mkB_list, atoi_dec h1, decide_eq_true hs]
      dsimp only
      rw [itoa_nat, decide_eq_true (show (⟨(decDigits n).toArray⟩ : ByteArray) = mkB (decDigits n) from rfl), decide_eq_true (by omega), decide_eq_true (by omega)]
      rfl
    · refine ⟨n, false, Tr.of fun m => ?_, .inr ⟨rfl, by omega⟩⟩
      unfold m_impl_number
      rw [mkB_list, atoi_dec h1, decide_eq_true hs]
      dsimp only
      rw [itoa_nat, decide_eq_true (show (⟨(decDigits n).toArray⟩ : ByteArray) = mkB (decDigits n) from rfl), decide_eq_true (show (0 : Int) ≤ n by omega), decide_eq_false (show ¬ (n : Int) ≤ M by omega)]
      rfl
  | none =>
    have hno : ∀ v : Int, Lib.atoiAll w = .ok v → ((decide ((⟨(itoa v).toArray⟩ : ByteArray) = mkB w)) && ((decide (0 ≤ v)) && decide (v ≤ (M : Int)))) = false := by
      intro v hv
      rw [Bool.eq_false_iff]
      intro h
      simp only [Bool.and_eq_true, decide_eq_true_eq] at h
      obtain ⟨k, rfl⟩ := Int.eq_ofNat_of_zero_le h.2.1
      have e := mkB_inj (show mkB (itoa (k : Int)) = mkB w from h.1)
      rw [itoa_nat] at e
      exact numOf_none hn k (by omega) e
    rcases ha : Lib.atoiAll w with v | _ | _
    · refine ⟨v, false, Tr.of fun m => ?_, rfl⟩
      unfold m_impl_number
      rw [mkB_list, ha, decide_eq_true hs]
      dsimp only
      rw [hno v ha]; rfl
    · exact ⟨0, false, Tr.of fun m => by unfold m_impl_number; rw [mkB_list, ha, decide_eq_true hs]; rfl, rfl⟩
    · exact ⟨_, false, Tr.of fun m => by unfold m_impl_number; rw [mkB_list, ha, decide_eq_true hs]; rfl, rfl⟩
theorem bidx_mk {w : List UInt8} {k : Nat} {x : UInt8} (h : w[k]? = some x) : bidx (mkB w) (k : Int) = some (x.toNat : Int) := bidx_nat (by rw [mkB_list]; exact h)
theorem bsub_mk (w : List UInt8) {i j : Nat} (h1 : i ≤ j) (h2 : j ≤ w.length) : bsub (mkB w) (i : Int) (j : Int) = some (mkB ((w.take j).drop i)) := by
  unfold bsub
  rw [mkB_size, decide_eq_true (show (0 : Int) ≤ i by omega), decide_eq_true (show (i : Int) ≤ j by omega), decide_eq_true (show (j : Int) ≤ (w.length : Nat) by omega)]
  simp only [Bool.and_self, cond_true, Int.toNat_natCast]
  refine congrArg some (ByteArray.ext ?_)
  rw [ByteArray.data_extract]
  unfold mkB
  simp [List.drop_take]
theorem dropC {α : Type} {w r : List α} {k : Nat} {c : α} (hd : w.drop k = c :: r) : w[k]? = some c ∧ k < w.length ∧ w.drop (k + 1) = r := by
  have h1 : w[k]? = some c := by have := congrArg (·[0]?) hd; simpa using this
  exact ⟨h1, (List.getElem?_eq_some_iff.1 h1).1, by rw [← List.drop_drop, hd]; rfl⟩
theorem num_loop (g3 : Bool) (w : List UInt8) (hw : w.length ≤ 17) : ∀ (t : List UInt8) (k acc : Nat), w.drop k = t → k ≤ w.length → acc < 10 ^ k →
    Tr (fun m => m_spec_l15Num_l4 m g3 (mkB w) (acc : Int) (k : Int)) (match dv acc t with | some n => (bif g3 then -(n : Int) else (n : Int), true) | none => (0, false)) := by
  intro t
  induction t with
  | nil =>
    intro k acc hd hk ha
    have hk' : k = w.length := by have := List.drop_eq_nil_iff.1 hd; omega
    have hp : 10 ^ k ≤ 10 ^ 17 := Nat.pow_le_pow_right (by decide) (by omega)
    have h17 : (10 : Nat) ^ 17 = 100000000000000000 := by decide
    refine Tr.step (fun m => by rw [m_spec_l15Num_l4, mkB_size, decide_eq_false (by omega), cond_false]) ?_
    rw [dv]
    cases g3 with
    | true => exact Tr.of fun m => by rw [cond_true, w64_in (by omega), Int.zero_sub]; rfl
    | false => exact Tr.val
  | cons c r ih =>
    intro k acc hd hk ha
    obtain ⟨hc, hk2, hd2⟩ := dropC hd
    have hc8 := UInt8.toNat_lt c
    have hp : 10 ^ k ≤ 10 ^ 16 := Nat.pow_le_pow_right (by decide) (by omega)
    have h16 : (10 : Nat) ^ 16 = 10000000000000000 := by decide
    refine Tr.step (fun m => by rw [m_spec_l15Num_l4, mkB_size, decide_eq_true (by omega), cond_true, bidx_mk hc, Option.bind_some, Option.bind_some]) ?_
    rw [dv]
    by_cases h1 : 48 ≤ c.toNat
    · refine Tr.ff (decide_eq_false (by omega)) ?_
      by_cases h2 : c.toNat ≤ 57
      · rw [decide_eq_true h1, decide_eq_true h2, Bool.and_self, cond_true]
        refine Tr.step (fun m => by rw [m_spec_l15Num_j5, decide_eq_false (by omega), cond_false, bidx_mk hc, Option.bind_some]) ?_
        have e1 : w64 ((w64 ((acc : Int) * 10)) + w64 (w8 ((c.toNat : Int) - 48))) = ((acc * 10 + (c.toNat - 48) : Nat) : Int) := by
          rw [show w8 ((c.toNat : Int) - 48) = (c.toNat : Int) - 48 from IntWalk.u8_in _ (by omega), w64_in (n := (acc : Int) * 10) (by omega), w64_in (n := (c.toNat : Int) - 48) (by omega), w64_in (by omega)]
          omega
        refine Tr.eq (fun m => by rw [e1, w64_in (by omega), succN]) (ih (k + 1) _ hd2 (by omega) (by rw [Nat.pow_succ]; omega))
      · rw [decide_eq_false h2, Bool.and_false, cond_false]
        exact Tr.step (fun m => by rw [m_spec_l15Num_j5, decide_eq_true (by omega), cond_true]) Tr.val
    · refine Tr.tt (decide_eq_true (by omega)) ?_
      rw [decide_eq_false h1, Bool.false_and, cond_false]
      exact Tr.step (fun m => by rw [m_spec_l15Num_j5, cond_true]) Tr.val
def numS (neg : Bool) (w : List UInt8) : Int × Bool :=
  bif decide (w = []) || (decide (17 < w.length) || (decide (w.head? = some 48) && (decide (1 < w.length) || neg))) then (0, false)
  else match dv 0 w with | some n => (bif neg then -(n : Int) else (n : Int), true) | none => (0, false)
theorem num_j2 (neg : Bool) (w : List UInt8) (hw : w.length ≤ 2 ^ 40) : Tr (fun m => m_spec_l15Num_j2 m neg (mkB w)) (numS neg w) := by
  refine Tr.step (fun m => by rw [m_spec_l15Num_j2, mkB_size]) ?_
  unfold numS
  cases w with
  | nil => exact Tr.val
  | cons c r =>
    rw [decide_eq_false (show ¬ (c :: r : List UInt8) = [] by simp), Bool.false_or]
    refine Tr.ff (decide_eq_false (by rw [List.length_cons]; omega)) ?_
    by_cases h17 : 17 < (c :: r).length
    · rw [decide_eq_true h17, Bool.true_or, cond_true]
      exact Tr.tt (decide_eq_true (by omega)) Tr.val
    · rw [decide_eq_false h17, Bool.false_or]
      refine Tr.ff (decide_eq_false (by omega)) (Tr.eq (fun m => by rw [show (0 : Int) = ((0 : Nat) : Int) from rfl, bidx_mk (w := c :: r) (k := 0) (x := c) rfl, Option.bind_some]) ?_)
      have hl : Tr (fun m => m_spec_l15Num_j3 m neg (mkB (c :: r))) (match dv 0 (c :: r) with | some n => (bif neg then -(n : Int) else (n : Int), true) | none => (0, false)) :=
        Tr.step (fun m => by rw [m_spec_l15Num_j3]; rfl) (num_loop neg (c :: r) (by omega) (c :: r) 0 0 rfl (by omega) (by decide))
      by_cases h48 : c = 48
      · subst h48
        rw [decide_eq_true (show (48 :: r : List UInt8).head? = some 48 from rfl), Bool.true_and]
        refine Tr.tt (decide_eq_true (by decide)) ?_
        by_cases h1 : 1 < (48 :: r : List UInt8).length
        · rw [decide_eq_true h1, Bool.true_or, cond_true]
          exact Tr.tt (decide_eq_true (by omega)) Tr.val
        · rw [decide_eq_false h1, Bool.false_or]
          refine Tr.ff (decide_eq_false (by omega)) ?_
          cases neg with
          | true => exact Tr.val
          | false => exact hl
      · rw [decide_eq_false (show ¬ (c :: r).head? = some 48 by simpa using h48), Bool.false_and, cond_false]
        exact Tr.ff (decide_eq_false (fun e => h48 (UInt8.toNat_inj.1 (by have : c.toNat = 48 := by omega
                                                                          rw [this]; rfl)))) hl
def numR (w : List UInt8) : Int × Bool := bif decide (w.head? = some 45) then numS true w.tail else numS false w
theorem l15Num_tr (w : List UInt8) (hw : w.length ≤ 2 ^ 40) : Tr (fun m => m_spec_l15Num m (mkB w)) (numR w) := by
  unfold numR
  refine Tr.eq (fun m => by unfold m_spec_l15Num; rw [mkB_size]) ?_
  cases w with
  | nil => exact Tr.ff (decide_eq_false (by simp)) (Tr.step (fun m => by rw [m_spec_l15Num_j1, cond_false]) (num_j2 false [] hw))
  | cons c r =>
    refine Tr.tt (decide_eq_true (by rw [List.length_cons]; omega)) (Tr.eq (fun m => by rw [show (0 : Int) = ((0 : Nat) : Int) from rfl, bidx_mk (w := c :: r) (k := 0) (x := c) rfl, Option.bind_some]) ?_)
    by_cases h45 : c = 45
    · subst h45
      rw [decide_eq_true (show (45 :: r : List UInt8).head? = some 45 from rfl), cond_true]
      refine Tr.eq (fun m => by rw [decide_eq_true (show ((45 : UInt8).toNat : Int) = 45 by decide)]) (Tr.step (fun m => by rw [m_spec_l15Num_j1, cond_true]) ?_)
      refine Tr.eq (fun m => by rw [mkB_size, show (1 : Int) = ((1 : Nat) : Int) from rfl, bsub_mk _ (by simp) (Nat.le_refl _), Option.bind_some, List.take_length]) ?_
      exact num_j2 true r (by simp at hw; omega)
    · rw [decide_eq_false (show ¬ (c :: r).head? = some 45 by simpa using h45), cond_false]
      have hc45 : ¬ (c.toNat : Int) = 45 := fun e => by
        have e2 : c.toNat = 45 := by omega
        exact h45 (UInt8.toNat_inj.1 (by rw [e2]; rfl))
      exact Tr.eq (fun m => by rw [decide_eq_false hc45]) (Tr.step (fun m => by rw [m_spec_l15Num_j1, cond_false]) (num_j2 false _ hw))
theorem numR_head {w : List UInt8} (h : (numR w).2 = true) : ∃ c r, w = c :: r ∧ (c.toNat = 45 ∨ (48 ≤ c.toNat ∧ c.toNat ≤ 57)) := by
  cases w with
  | nil => unfold numR numS at h; cases h
  | cons c r =>
    refine ⟨c, r, rfl, ?_⟩
    by_cases h45 : c = 45
    · subst h45; exact .inl rfl
    · right
      unfold numR at h
      rw [decide_eq_false (show ¬ (c :: r).head? = some 45 by simpa using h45), cond_false] at h
      unfold numS at h
      cases hc : decide ((c :: r) = []) || (decide (17 < (c :: r).length) || (decide ((c :: r).head? = some 48) && (decide (1 < (c :: r).length) || false))) with
      | true => rw [hc] at h; cases h
      | false =>
        rw [hc, cond_false] at h
        cases hd : dv 0 (c :: r) with
        | none => rw [hd] at h; cases h
        | some n => obtain ⟨h1, h2, _⟩ := dv_cons hd; exact ⟨h1, h2⟩
theorem specNum_tr (w : List UInt8) (hw : w.length ≤ 2 ^ 40) : ∃ v b, Tr (fun m => m_spec_l15Num m (mkB w)) (v, b) ∧ (b = true → ∃ c r, w = c :: r ∧ (c.toNat = 45 ∨ (48 ≤ c.toNat ∧ c.toNat ≤ 57))) ∧
    (match numOf w with | some n => b = true ∧ v = (n : Int) | none => b = true → v < 0 ∨ 999 < v) := by
  refine ⟨(numR w).1, (numR w).2, l15Num_tr w hw, numR_head, ?_⟩
  cases hn : numOf w with
  | some n =>
    obtain ⟨h1, rfl⟩ := numOf_some.1 hn
    have hd := dv_dec n
    have h48 : (decDigits n).head? = some 48 → ¬ 1 < (decDigits n).length := by
      by_cases h10 : n < 10
      · rw [Lib.decDigits_one h10]; simp
      · have hne : ∀ k, 1 ≤ k → k < 10 → UInt8.ofNat (48 + k) ≠ 48 := fun k h2 h3 e => by
          have := congrArg UInt8.toNat e
          rw [dig_nat h3] at this
          have e2 : (48 : UInt8).toNat = 48 := rfl
          omega
        by_cases h100 : n < 100
        · rw [Lib.decDigits_two h10 h100]
          intro h
          have h := Option.some.inj h
          exact absurd h (hne _ (by omega) (by omega))
        · rw [decDigits, dif_neg h10]
          by_cases h110 : n / 10 < 10
          · omega
          · rw [Lib.decDigits_two h110 (by omega)]
            intro h
            have h := Option.some.inj h
            exact absurd h (hne _ (by omega) (by omega))
    have hlen : (decDigits n).length ≤ 3 := by rw [Lib.decDigits_length]; exact nDig_le (k := 2) (by omega)
    cases hw2 : decDigits n with
    | nil => exact absurd hw2 (decD_ne n)
    | cons c r =>
      rw [hw2] at hd h48 hlen
      obtain ⟨c1, c2, _⟩ := dv_cons hd
      have h45 : ¬ (c :: r).head? = some 45 := fun e => by
        simp at e; subst e; revert c1; decide
      have hcond : (decide ((c :: r) = []) || (decide (17 < (c :: r).length) || (decide ((c :: r).head? = some 48) && (decide (1 < (c :: r).length) || false)))) = false := by
        rw [decide_eq_false (by simp), decide_eq_false (by omega), Bool.false_or, Bool.false_or, Bool.or_false]
        cases h : decide ((c :: r).head? = some 48) with
        | false => rfl
        | true => rw [decide_eq_false (h48 (of_decide_eq_true h))]; rfl
      have e : numR (c :: r) = ((n : Int), true) := by
        unfold numR
        rw [decide_eq_false h45, cond_false]
        unfold numS
        rw [hcond, hd]
        rfl
      rw [e]
      exact ⟨rfl, rfl⟩
  | none =>
    dsimp only
    unfold numR
    intro hb
    cases h45 : decide (w.head? = some 45) with
    | true =>
      simp only [h45, cond_true] at hb ⊢
      unfold numS at hb ⊢
      cases hc : decide (w.tail = []) || (decide (17 < w.tail.length) || (decide (w.tail.head? = some 48) && (decide (1 < w.tail.length) || true))) with
      | true => simp only [hc, cond_true] at hb; cases hb
      | false =>
        simp only [hc, cond_false] at hb ⊢
        simp only [Bool.or_true, Bool.and_true, Bool.or_eq_false_iff, decide_eq_false_iff_not] at hc
        cases hd : dv 0 w.tail with
        | none => simp [hd] at hb
        | some n =>
          cases ht : w.tail with
          | nil => exact absurd ht hc.1
          | cons x l =>
            rw [ht] at hd hc
            obtain ⟨x1, x2, x3⟩ := dv_cons hd
            have := dv_le _ _ _ x3
            have hx2 : x.toNat ≠ 48 := fun e => hc.2.2 (by
              have : x = 48 := UInt8.toNat_inj.1 (by rw [e]; rfl)
              rw [this]; rfl)
            left
            show -(n : Int) < 0
            omega
    | false =>
      simp only [h45, cond_false] at hb ⊢
      unfold numS at hb ⊢
      cases hc : decide (w = []) || (decide (17 < w.length) || (decide (w.head? = some 48) && (decide (1 < w.length) || false))) with
      | true => simp only [hc, cond_true] at hb; cases hb
      | false =>
        simp only [hc, cond_false] at hb ⊢
        simp only [Bool.or_false, Bool.or_eq_false_iff, decide_eq_false_iff_not, Bool.and_eq_false_iff] at hc
        cases hd : dv 0 w with
        | none => simp [hd] at hb
        | some n =>
          have e := dec_dv _ w n (Nat.le_refl _) hd hc.1 (fun h => by
            rcases hc.2.2 with h1 | h1
            · exact absurd h h1
            · have : w.length ≠ 0 := fun e => hc.1 (List.eq_nil_of_length_eq_zero e)
              omega)
          right
          show (999 : Int) < (n : Int)
          by_cases h9 : n ≤ 999
          · exact absurd e (numOf_none hn n h9)
          · omega
end Go.Abs
end
section
set_option linter.unusedVariables false
set_option linter.unusedSimpArgs false
set_option maxHeartbeats 2000000
namespace Go.Abs
theorem drop_of {α : Type} {a b l : List α} (h : a ++ b = l) : l.drop a.length = b := by subst h; simp
theorem take_of {α : Type} {a b l : List α} (h : a ++ b = l) : l.take a.length = a := by subst h; simp
theorem tail_of {α : Type} {a b l : List α} {c : α} (h : a ++ c :: b = l) : l.drop (a.length + 1) = b := by subst h; simp
def skp (l : List UInt8) : List UInt8 := l.dropWhile (· == 32)
def dlm (b : UInt8) : Bool := [32, 40, 41, 123, 125].contains b
def wrd (l : List UInt8) : List UInt8 := l.takeWhile fun b => !dlm b
def rst (l : List UInt8) : List UInt8 := l.dropWhile fun b => !dlm b
theorem wrd_rst (l : List UInt8) : wrd l ++ rst l = l := List.takeWhile_append_dropWhile
theorem rst_drop (l : List UInt8) : rst l = l.drop (wrd l).length := by
  exact (drop_of (wrd_rst l)).symm
theorem wrd_take (l : List UInt8) : wrd l = l.take (wrd l).length := by
  exact (take_of (wrd_rst l)).symm
theorem wrd_le (l : List UInt8) : (wrd l).length ≤ l.length := by
  have := congrArg List.length (wrd_rst l)
  rw [List.length_append] at this; omega
theorem rst_le (l : List UInt8) : (rst l).length ≤ l.length := by
  have := congrArg List.length (wrd_rst l)
  rw [List.length_append] at this; omega
theorem skp_le : ∀ l : List UInt8, (skp l).length ≤ l.length
  | [] => Nat.le_refl _
  | b :: l => by
    unfold skp
    rw [List.dropWhile]
    split
    · have := skp_le l; unfold skp at this; rw [List.length_cons]; omega
    · exact Nat.le_refl _
theorem skp_cons (b : UInt8) (l : List UInt8) : skp (b :: l) = if b = 32 then skp l else b :: l := by
  unfold skp
  rw [List.dropWhile]
  by_cases h : b = 32
  · rw [if_pos h, beq_iff_eq.2 h]
  · rw [if_neg h, beq_eq_false_iff_ne.2 h]
theorem skp_nil : skp [] = [] := rfl
theorem skp_head {l r : List UInt8} {c : UInt8} (h : skp l = c :: r) : c ≠ 32 := by
  induction l with
  | nil => cases h
  | cons b l ih =>
    rw [skp_cons] at h
    split at h
    · exact ih h
    · cases h; assumption
theorem skp_idem (l : List UInt8) : skp (skp l) = skp l := by
  cases h : skp l with
  | nil => rfl
  | cons c r => rw [skp_cons, if_neg (skp_head h)]
theorem skp_id {l : List UInt8} (h : l.head? ≠ some 32) : skp l = l := by
  cases l with
  | nil => rfl
  | cons c r => rw [skp_cons, if_neg (by simpa using h)]
theorem skp_sub (l : List UInt8) : skp l = l.drop (l.length - (skp l).length) := by
  have h : l.takeWhile (· == 32) ++ skp l = l := List.takeWhile_append_dropWhile
  have hl := congrArg List.length h
  rw [List.length_append] at hl
  rw [show l.length - (skp l).length = (l.takeWhile (· == 32)).length by omega, drop_of h]
def bef (c : UInt8) (l : List UInt8) : List UInt8 := l.takeWhile (· != c)
def aft (c : UInt8) (l : List UInt8) : List UInt8 := l.dropWhile (· != c)
theorem bef_aft (c : UInt8) (l : List UInt8) : bef c l ++ aft c l = l := List.takeWhile_append_dropWhile
theorem bef_cons (c b : UInt8) (l : List UInt8) : bef c (b :: l) = if b = c then [] else b :: bef c l := by
  unfold bef; rw [List.takeWhile]
  by_cases h : b = c
  · rw [if_pos h, bne_eq_false_iff_eq.2 h]
  · rw [if_neg h, bne_iff_ne.2 h]
theorem aft_cons (c b : UInt8) (l : List UInt8) : aft c (b :: l) = if b = c then b :: l else aft c l := by
  unfold aft; rw [List.dropWhile]
  by_cases h : b = c
  · rw [if_pos h, bne_eq_false_iff_eq.2 h]
  · rw [if_neg h, bne_iff_ne.2 h]
theorem aft_head {c x : UInt8} {l r : List UInt8} (h : aft c l = x :: r) : x = c := by
  induction l with
  | nil => cases h
  | cons b l ih =>
    rw [aft_cons] at h
    split at h
    · cases h; assumption
    · exact ih h
theorem index_ba (c : UInt8) : ∀ l : List UInt8, (aft c l = [] ∧ Lib.index l [c] = -1) ∨ (∃ r, aft c l = c :: r ∧ Lib.index l [c] = ((bef c l).length : Int))
  | [] => .inl ⟨rfl, rfl⟩
  | b :: l => by
    rw [aft_cons, bef_cons]
    by_cases h : b = c
    · subst h
      right
      refine ⟨l, by rw [if_pos rfl], ?_⟩
      rw [if_pos rfl, Lib.index, if_pos (by simp)]; rfl
    · rw [if_neg h, if_neg h]
      have hp : ([c] : List UInt8).isPrefixOf (b :: l) = false := by
        rw [List.isPrefixOf, beq_eq_false_iff_ne.2 (fun e => h e.symm), Bool.false_and]
      rcases index_ba c l with ⟨h1, h2⟩ | ⟨r, h1, h2⟩
      · exact .inl ⟨h1, by rw [Lib.index, hp, h2]; rfl⟩
      · refine .inr ⟨r, h1, ?_⟩
        rw [Lib.index, hp, h2, if_neg (by simp), if_neg (by simp only [beq_iff_eq]; omega), List.length_cons]; omega
theorem cut_ba (c : UInt8) (l : List UInt8) : Lib.cut l [c] = match aft c l with | [] => (l, [], false) | _ :: r => (bef c l, r, true) := by
  unfold Lib.cut
  rcases index_ba c l with ⟨h1, h2⟩ | ⟨r, h1, h2⟩
  · rw [h2, h1, if_neg (by omega)]
  · have e := bef_aft c l
    rw [h2, h1, if_pos (by omega)]
    dsimp only
    rw [Int.toNat_natCast]
    rw [h1] at e
    refine Prod.ext ?_ (Prod.ext ?_ rfl)
    · exact take_of e
    · exact tail_of e
def cutAt (c : UInt8) : List UInt8 → List (List UInt8)
  | [] => [[]]
  | x :: r => if x = c then [] :: cutAt c r else match cutAt c r with | [] => [[x]] | y :: ys => (x :: y) :: ys
theorem cutAt_ne (c : UInt8) (l : List UInt8) : cutAt c l ≠ [] := by
  cases l with
  | nil => simp [cutAt]
  | cons x r =>
    rw [cutAt]
    split
    · simp
    · split <;> simp
theorem cutAt_len (c : UInt8) : ∀ l : List UInt8, (cutAt c l).length ≤ l.length + 1
  | [] => by simp [cutAt]
  | x :: r => by
    have h := cutAt_len c r
    rw [cutAt]
    split
    · simp; exact h
    · split
      · simp
      · rename_i y ys he
        rw [he] at h; simp at h ⊢; omega
theorem cutAt_ba (c : UInt8) : ∀ l : List UInt8, cutAt c l = match aft c l with | [] => [l] | _ :: r => bef c l :: cutAt c r
  | [] => rfl
  | x :: r => by
    rw [cutAt, aft_cons, bef_cons]
    by_cases h : x = c
    · rw [if_pos h, if_pos h, if_pos h]
    · rw [if_neg h, if_neg h, if_neg h, cutAt_ba c r]
      cases aft c r <;> rfl
theorem aft_lt {c x : UInt8} {l r : List UInt8} (h : aft c l = x :: r) : r.length < l.length ∧ (bef c l).length + 1 + r.length = l.length := by
  have := congrArg List.length (bef_aft c l)
  rw [h, List.length_append, List.length_cons] at this
  omega
theorem splitK_cut (c : UInt8) : ∀ (n : Nat) (l : List UInt8), l.length ≤ n → Lib.splitK [c] 0 (Lib.count l [c]) l = cutAt c l := by
  intro n
  induction n with
  | zero =>
    intro l h
    obtain rfl := List.eq_nil_of_length_eq_zero (l := l) (by omega)
    rfl
  | succ n ih =>
    intro l h
    rw [cutAt_ba]
    rcases index_ba c l with ⟨h1, h2⟩ | ⟨r, h1, h2⟩
    · rw [Lib.count_miss h2, h1]; rfl
    · have e := bef_aft c l
      rw [h1] at e
      have hd : l.drop ((bef c l).length + [c].length) = r := tail_of e
      have ht : l.take (bef c l).length = bef c l := take_of e
      rw [Lib.count_hit (by simp) h2, hd, Nat.add_comm, Lib.splitK, h2, if_neg (by simp only [beq_iff_eq]; omega), Int.toNat_natCast, hd, Nat.add_zero, ht, h1, ih r (by have := aft_lt h1; omega)]
theorem indexAny_wr : ∀ l : List UInt8, (rst l = [] ∧ Lib.indexAny l [32, 40, 41, 123, 125] = -1) ∨ (rst l ≠ [] ∧ Lib.indexAny l [32, 40, 41, 123, 125] = ((wrd l).length : Int))
  | [] => .inl ⟨rfl, rfl⟩
  | b :: l => by
    unfold rst wrd
    rw [List.dropWhile, List.takeWhile, Lib.indexAny]
    cases hb : dlm b with
    | true =>
      rw [if_pos (by exact hb)]
      exact .inr ⟨by simp, rfl⟩
    | false =>
      rw [if_neg (by rw [show ([32, 40, 41, 123, 125] : List UInt8).contains b = false from hb]; simp)]
      rcases indexAny_wr l with ⟨h1, h2⟩ | ⟨h1, h2⟩
      · left
        exact ⟨h1, by rw [h2]; rfl⟩
      · right
        refine ⟨h1, ?_⟩
        rw [h2, if_neg (by simp only [beq_iff_eq]; omega)]
        simp only [Bool.not_false, List.length_cons]
        unfold wrd; omega
theorem trim_mk (l : List UInt8) : (⟨(Lib.trimLeftB (mkB l).data.toList 32).toArray⟩ : ByteArray) = mkB (skp l) := by rw [mkB_list]; rfl
theorem blanks_tr (l : List UInt8) (bad : Bool) : Tr (fun m => m_impl_scan_blanks m ⟨mkB l, bad⟩) (decide ((skp l).length < l.length), ⟨mkB (skp l), bad⟩) := by
  refine Tr.of (fun m => ?_)
  unfold m_impl_scan_blanks m_strings_TrimLeft
  rw [show (decide ((⟨#[32]⟩ : ByteArray) = ⟨#[32]⟩)) = true from decide_eq_true rfl]
  simp only [chk, cond_true, Option.bind_some, trim_mk, mkB_size]
  congr 2
  rw [Bool.eq_iff_iff, decide_eq_true_iff, decide_eq_true_iff]; omega
theorem mkB_empty {l : List UInt8} : (decide (mkB l = (⟨#[]⟩ : ByteArray))) = decide (l = []) := by
  rw [Bool.eq_iff_iff, decide_eq_true_iff, decide_eq_true_iff]
  exact ⟨fun h => mkB_inj (b := []) h, fun h => by rw [h]; rfl⟩
theorem word_tr (l : List UInt8) (hl : l.length ≤ 2 ^ 30) (bad : Bool) : Tr (fun m => m_impl_scan_word m ⟨mkB l, bad⟩) (mkB (wrd l), ⟨mkB (rst l), bad⟩) := by
  have hw := wrd_le l
  have fin : Tr (fun m => m_impl_scan_word_j1 m ⟨mkB l, bad⟩ ((wrd l).length : Int)) (mkB (wrd l), ⟨mkB (rst l), bad⟩) := by
    refine Tr.step (fun m => by rw [m_impl_scan_word_j1]) (Tr.of fun m => ?_)
    dsimp only
    rw [show (0 : Int) = ((0 : Nat) : Int) from rfl, bsub_mk l (Nat.zero_le _) hw, Option.bind_some, mkB_size, bsub_mk l hw (Nat.le_refl _), Option.bind_some, List.take_length, List.drop_zero, ← wrd_take, ← rst_drop]
  have hi : ∀ m, m_strings_IndexAny m (mkB l) (⟨#[32, 40, 41, 123, 125]⟩ : ByteArray) = some (Lib.indexAny l [32, 40, 41, 123, 125]) := fun m => by
    unfold m_strings_IndexAny
    rw [mkB_size, decide_eq_true (by omega), decide_eq_true rfl, mkB_list]
    rfl
  refine Tr.eq (fun m => by unfold m_impl_scan_word; rfl) (Tr.bind (Tr.of hi) ?_)
  rcases indexAny_wr l with ⟨h1, h2⟩ | ⟨h1, h2⟩
  · refine Tr.tt (decide_eq_true (by omega)) ?_
    have e : (wrd l).length = l.length := by
      have := congrArg List.length (wrd_rst l)
      rw [h1, List.append_nil] at this; exact this
    rw [e] at fin
    exact Tr.eq (fun m => by dsimp only; rw [mkB_size]) fin
  · refine Tr.ff (decide_eq_false (by omega)) ?_
    exact Tr.eq (fun m => by rw [h2]) fin
def pfx (l : List UInt8) : ByteArray × Bool := match l with | 123 :: r => (mkB r, true) | _ => (mkB l, false)
theorem pfx_no {l : List UInt8} (h : l.head? ≠ some 123) : pfx l = (mkB l, false) := by
  unfold pfx
  split
  · exact absurd rfl h
  · rfl
theorem prefix_tr (l : List UInt8) : Tr (fun m => m_strings_CutPrefix m (mkB l) (⟨#[123]⟩ : ByteArray)) (pfx l) := by
  refine Tr.of (fun m => ?_)
  unfold m_strings_CutPrefix
  rw [mkB_list]
  refine congrArg some ?_
  unfold Lib.trimPrefix Lib.hasPrefix
  cases l with
  | nil => rfl
  | cons c r =>
    by_cases h : c = 123
    · subst h; rfl
    · have hp : (⟨#[123]⟩ : ByteArray).data.toList.isPrefixOf (c :: r) = false := by
        show ([123] : List UInt8).isPrefixOf (c :: r) = false
        rw [List.isPrefixOf, beq_eq_false_iff_ne.2 (fun e => h e.symm), Bool.false_and]
      rw [hp]
      rw [pfx_no (by simpa using h)]; rfl
theorem cut_tr (l : List UInt8) (hl : l.length ≤ 2 ^ 30) : Tr (fun m => m_strings_Cut m (mkB l) (⟨#[125]⟩ : ByteArray)) (match aft 125 l with | [] => (mkB l, mkB [], false) | _ :: r => (mkB (bef 125 l), mkB r, true)) := by
  refine Tr.of (fun m => ?_)
  unfold m_strings_Cut
  rw [mkB_list, mkB_size, decide_eq_true (by omega), show (⟨#[125]⟩ : ByteArray).data.toList = [125] from rfl, cut_ba]
  simp only [chk, cond_true]
  cases aft 125 l <;> rfl
theorem split_tr (l : List UInt8) (hl : l.length ≤ 2 ^ 30) : Tr (fun m => m_strings_Split m (mkB l) (⟨#[44]⟩ : ByteArray)) ((cutAt 44 l).map mkB) := by
  have hd := Lib.splitB_data (⟨#[44]⟩ : ByteArray) 0 (Lib.countB (mkB l) ⟨#[44]⟩) (mkB l)
  have hc : Lib.countB (mkB l) (⟨#[44]⟩ : ByteArray) = Lib.count l [44] := by unfold Lib.countB; rw [mkB_list]
  rw [mkB_list, hc, show (⟨#[44]⟩ : ByteArray).data.toList = [44] from rfl, splitK_cut 44 _ l (Nat.le_refl _)] at hd
  have he : Lib.splitB (⟨#[44]⟩ : ByteArray) 0 (Lib.countB (mkB l) ⟨#[44]⟩) (mkB l) = (cutAt 44 l).map mkB := by
    rw [hc, ← hd, List.map_map]
    conv => lhs; rw [← List.map_id (Lib.splitB _ _ _ _)]
    exact List.map_congr_left (fun x _ => (mkB_of x).symm)
  have hall := Lib.splitB_all (⟨#[44]⟩ : ByteArray) (by decide) 0 _ (mkB l) rfl
  refine Tr.of (fun m => ?_)
  unfold m_strings_Split
  have hlen := cutAt_len 44 l
  rw [mkB_size, decide_eq_true (by omega), decide_eq_true (by decide), decide_eq_true hall, he, decide_eq_true (by rw [List.length_map]; unfold maxLen; omega)]
  rfl
end Go.Abs
end
section
set_option linter.unusedVariables false
set_option linter.unusedSimpArgs false
set_option maxHeartbeats 4000000
namespace Go.Abs
open Go.Lib (itoa decDigits)
abbrev F0 : Form := Form.mk 0 (⟨#[]⟩ : ByteArray) 0 ([] : List Int) ([] : List Form)
abbrev fNum (n : Int) : Form := Form.mk 2 (⟨#[]⟩ : ByteArray) n ([] : List Int) ([] : List Form)
abbrev fName (w : List UInt8) (ns : List Int) : Form := Form.mk 1 (mkB w) 0 ns ([] : List Form)
abbrev fList (ks : List Form) : Form := Form.mk 3 (⟨#[]⟩ : ByteArray) 0 ([] : List Int) ks
def numsOf : List (List UInt8) → Option (List Int)
  | [] => some []
  | w :: r => match numOf w with
    | none => none
    | some n => match numsOf r with
      | none => none
      | some ns => some ((n : Int) :: ns)
def rdSets (t : List UInt8) : Option (List Int × List UInt8) := match aft 125 t with
  | [] => none
  | _ :: r => match numsOf (cutAt 44 (bef 125 t)) with
    | none => none
    | some ns => bif scOk ns then some (ns, r) else none
def rdAtom (s : List UInt8) : Option (Form × List UInt8) :=
  bif decide ((rst s).head? = some 125) then none else
  match numOf (wrd s) with
  | some n => bif decide ((rst s).head? = some 123) then none else some (fNum n, rst s)
  | none => bif nmOk (mkB (wrd s)) then
      (bif decide ((rst s).head? = some 123) then
        (match rdSets (rst s).tail with
        | none => none
        | some p => some (fName (wrd s) p.1, p.2))
      else some (fName (wrd s) [], rst s))
    else none
mutual
def rd : Nat → Nat → List UInt8 → Option (Form × List UInt8)
  | 0, _, _ => none
  | f + 1, d, s => match skp s with
    | [] => none
    | c :: r => bif decide (d = 0) then none else
      bif decide (c = 40) then (match rl f d r [] with | none => none | some p => some (fList p.1, p.2))
      else rdAtom (c :: r)
def rl : Nat → Nat → List UInt8 → List Form → Option (List Form × List UInt8)
  | 0, _, _, _ => none
  | f + 1, d, s, acc => match skp s with
    | [] => none
    | c :: r => bif decide (c = 41) then some (acc, r) else
      match rd f (d - 1) (c :: r) with
      | none => none
      | some p => rl f d p.2 (acc ++ [p.1])
end
def okH (l : List UInt8) : Prop := l = [] ∨ l.head? = some 32 ∨ l.head? = some 40 ∨ l.head? = some 41
def noH (l : List UInt8) : Prop := l.head? = some 123 ∨ l.head? = some 125
theorem rst_head (l : List UInt8) : okH (rst l) ∨ noH (rst l) := by
  induction l with
  | nil => exact .inl (.inl rfl)
  | cons b l ih =>
    unfold rst at *
    rw [List.dropWhile]
    cases hb : dlm b with
    | false => exact ih
    | true =>
      unfold dlm at hb
      simp at hb
      rcases hb with rfl | rfl | rfl | rfl | rfl
      · exact .inl (.inr (.inl rfl))
      · exact .inl (.inr (.inr (.inl rfl)))
      · exact .inl (.inr (.inr (.inr rfl)))
      · exact .inr (.inl rfl)
      · exact .inr (.inr rfl)
theorem nmOk_len {w : List UInt8} (h : nmOk (mkB w) = true) : 1 ≤ w.length ∧ w.length ≤ 12 := by
  unfold nmOk at h
  simp only [Bool.or_eq_true, decide_eq_true_eq, Bool.and_eq_true] at h
  rcases h with h | h | ⟨_, h⟩
  · obtain rfl := mkB_inj (b := [46, 46, 46]) h; decide
  · obtain rfl := mkB_inj (b := [95]) h; decide
  · unfold nmSz at h
    rw [mkB_size] at h
    simp only [Bool.and_eq_true, decide_eq_true_eq] at h
    omega
theorem isOk_list {ks : List Form} {d : Nat} (hd : d ≠ 0) : (fList ks).isOk d = alls (fun x => x.isOk (d - 1)) ks := by
  rw [Form.isOk_eq, decide_eq_false hd]; rfl
theorem isOk_num {n : Int} {d : Nat} (hd : d ≠ 0) : (fNum n).isOk d = (decide (0 ≤ n) && decide (n ≤ 999)) := by
  rw [Form.isOk_eq, decide_eq_false hd]
  show (true && ((decide (0 ≤ n) && decide (n ≤ 999)) && (true && true))) = _
  simp
theorem isOk_nm {w : List UInt8} {ns : List Int} {d : Nat} (hd : d ≠ 0) : (fName w ns).isOk d = (nmOk (mkB w) && scOk ns) := by
  rw [Form.isOk_eq, decide_eq_false hd]
  show (nmOk (mkB w) && (true && (scOk ns && true))) = _
  simp
def ImpOk (e : Option (Form × List UInt8)) (s : List UInt8) (d : Nat) (f : Form) (free : Bool) (sc : scan) : Prop :=
  ∃ l, sc.s = mkB l ∧ l.length ≤ s.length ∧ (sc.bad = false → f.fit ∧ f.w + 1 + 2 * l.length ≤ 2 * s.length) ∧
    match e with
    | some p => f = p.1 ∧ sc.bad = false ∧ l = p.2 ∧ (free = true ∨ okH l)
    | none => sc.bad = true ∨ f.isOk d = false ∨ (free = false ∧ noH l)
def ImpOkL (e : Option (List Form × List UInt8)) (s : List UInt8) (acc : List Form) (d : Nat) (f : Form) (free : Bool) (sc : scan) : Prop :=
  ∃ l, sc.s = mkB l ∧ l.length ≤ s.length ∧ (sc.bad = false → free = true ∧ f.fit ∧ f.w + 1 + 2 * l.length ≤ 2 * s.length + Form.ws acc) ∧
    match e with
    | some p => f = fList p.1 ∧ sc.bad = false ∧ l = p.2
    | none => sc.bad = true ∨ f.isOk d = false
theorem cutAt_mem (c : UInt8) : ∀ (l w : List UInt8), w ∈ cutAt c l → w.length ≤ l.length
  | [], w, h => by simp [cutAt] at h; subst h; exact Nat.le_refl _
  | x :: r, w, h => by
    have ih := cutAt_mem c r
    rw [cutAt] at h
    split at h
    · rcases List.mem_cons.1 h with rfl | h
      · simp
      · have := ih w h; rw [List.length_cons]; omega
    · split at h
      · simp at h; subst h; simp
      · rename_i y ys he
        rw [he] at ih
        rcases List.mem_cons.1 h with rfl | h
        · have := ih y (List.mem_cons_self ..); simp only [List.length_cons]; omega
        · have := ih w (List.mem_cons_of_mem _ h); rw [List.length_cons]; omega
theorem imp_nums (v34 : ByteArray × scan) (v41 : ByteArray × ByteArray × Bool) (ps : List (List UInt8)) (hps : ∀ w ∈ ps, w.length ≤ 2 ^ 40) (hlen : ps.length ≤ 2 ^ 30) :
    ∀ (t : List (List UInt8)) (k : Nat) (bad : Bool) (ns : List Int), ps.drop k = t → k ≤ ps.length → ns.length = k →
      TQ (fun m => m_impl_scan_form_l7 m v34 v41 (ps.map mkB) (k : Int) bad ns) (fun r => ∃ ns' bad', r = (Form.mk 1 v34.1 0 (ns ++ ns') ([] : List Form), true, ⟨v41.2.1, bad'⟩) ∧ ns'.length = t.length ∧ (bad = true → bad' = true) ∧
        (bad = false → match numsOf t with | none => bad' = true | some l => (bad' = false ∧ ns' = l) ∨ (bad' = true ∧ ∃ x ∈ l, (99 : Int) < x))) := by
  intro t
  induction t with
  | nil =>
    intro k bad ns hd hk hn
    have hk' : k = ps.length := by have := List.drop_eq_nil_iff.1 hd; omega
    refine TQ.step (fun m => by rw [m_impl_scan_form_l7, List.length_map, hk', ltN_self, cond_false]) (TQ.val ⟨[], bad, by rw [List.append_nil], rfl, fun h => h, fun h => ?_⟩)
    rw [numsOf]; exact .inl ⟨h, rfl⟩
  | cons w r ih =>
    intro k bad ns hd hk hn
    obtain ⟨hc, hk2, hd2⟩ := dropC hd
    obtain ⟨v, b, h1, h2⟩ := number_tr w (hps w (List.mem_of_getElem? hc)) 99 (by omega)
    have h1 : Tr (fun m => m_impl_number m (mkB w) 99) (v, b) := h1
    have hidx : idx (ps.map mkB) (k : Int) = some (mkB w) := idx_nat (by rw [List.getElem?_map, hc]; rfl)
    refine TQ.step (fun m => by rw [m_impl_scan_form_l7, List.length_map, ltN hk2, cond_true, hidx, Option.bind_some]) (TQ.ev (v := (v, b)) h1 ?_)
    have go : ∀ b2 : Bool, (bad = true → b2 = true) → (bad = false → b2 = !b) → TQ (fun m => m_impl_scan_form_j8 m v34 v41 (ps.map mkB) (k : Int) ns (v, b) b2) (fun r' => ∃ ns' bad', r' = (Form.mk 1 v34.1 0 (ns ++ ns') ([] : List Form), true, ⟨v41.2.1, bad'⟩) ∧ ns'.length = (w :: r).length ∧ (bad = true → bad' = true) ∧
        (bad = false → match numsOf (w :: r) with | none => bad' = true | some l => (bad' = false ∧ ns' = l) ∨ (bad' = true ∧ ∃ x ∈ l, (99 : Int) < x))) := by
      intro b2 hb1 hb2
      refine TQ.step (fun m => by rw [m_impl_scan_form_j8, succN]) (TQ.chk (decide_eq_true (by simp only [List.length_singleton]; omega)) ?_)
      refine TQ.mono (ih (k + 1) b2 (ns ++ [v]) hd2 (by omega) (by rw [List.length_append, List.length_singleton]; omega)) ?_
      rintro r' ⟨ns', bad', rfl, e1, e2, e3⟩
      refine ⟨v :: ns', bad', by rw [List.append_assoc]; rfl, by rw [List.length_cons, List.length_cons, e1], fun h => e2 (hb1 h), fun h => ?_⟩
      have hb := hb2 h
      rw [numsOf]
      cases hn2 : numOf w with
      | none =>
        rw [hn2] at h2
        exact e2 (by rw [hb, h2]; rfl)
      | some n =>
        rw [hn2] at h2
        rcases h2 with ⟨h3, h4, h5⟩ | ⟨h3, h4⟩
        · have e4 := e3 (by rw [hb, h3]; rfl)
          cases hr : numsOf r with
          | none => rw [hr] at e4; exact e4
          | some l =>
            rw [hr] at e4
            rcases e4 with ⟨e5, e6⟩ | ⟨e5, x, e6, e7⟩
            · exact .inl ⟨e5, by rw [e6, h4]⟩
            · exact .inr ⟨e5, x, List.mem_cons_of_mem _ e6, e7⟩
        · have e5 := e2 (by rw [hb, h3]; rfl)
          cases hr : numsOf r with
          | none => exact e5
          | some l => exact .inr ⟨e5, n, List.mem_cons_self .., by omega⟩
    cases bad with
    | true => exact TQ.eq (fun m => by rw [cond_true]) (go true (fun _ => rfl) (fun h => by cases h))
    | false => exact TQ.eq (fun m => by rw [cond_false]) (go (!b) (fun h => by cases h) (fun _ => rfl))
theorem numsOf_len : ∀ {ps : List (List UInt8)} {l : List Int}, numsOf ps = some l → l.length = ps.length
  | [], l, h => by rw [numsOf] at h; cases h; rfl
  | w :: r, l, h => by
    rw [numsOf] at h
    split at h
    · cases h
    · split at h
      · cases h
      · rename_i e; cases h; rw [List.length_cons, numsOf_len e, List.length_cons]
theorem imp_atom (s : List UInt8) (d : Nat) (hd : d ≠ 0) (hs : s.length ≤ 2 ^ 20) (x2 : Int) (b0 : Bool) (c : UInt8) (r : List UInt8) (hsc : s = c :: r) (hc : c ≠ 40) :
    TQ (fun m => m_impl_scan_form_j1 m x2 (b0, ⟨mkB s, false⟩) false) (fun q => ImpOk (rdAtom s) s d q.1 q.2.1 q.2.2) := by
  have hw := wrd_le s
  have hr := rst_le s
  have hwr := congrArg List.length (wrd_rst s)
  rw [List.length_append] at hwr
  refine TQ.step (fun m => by rw [m_impl_scan_form_j1, cond_false]) ?_
  have hbi : Tr (fun _ : Nat => bidx (mkB s) 0) (c.toNat : Int) := Tr.of fun m => bidx_mk (w := s) (k := 0) (x := c) (by rw [hsc]; rfl)
  refine TQ.ev hbi ?_
  have hc40 : ¬ (c.toNat : Int) = 40 := fun e => by
    have e2 : c.toNat = 40 := by omega
    exact hc (UInt8.toNat_inj.1 (by rw [e2]; rfl))
  refine TQ.eq (fun m => by rw [decide_eq_false hc40, cond_false]) (TQ.ev (word_tr s (by omega) false) ?_)
  obtain ⟨v, b, h1, h2⟩ := number_tr (wrd s) (by omega) 999 (Nat.le_refl _)
  have h1 : Tr (fun m => m_impl_number m (mkB (wrd s)) 999) (v, b) := h1
  refine TQ.ev h1 ?_
  dsimp only
  cases hn : numOf (wrd s) with
  | some n =>
    rw [hn] at h2
    obtain ⟨hn9, hdec⟩ := numOf_some.1 hn
    rcases h2 with ⟨rfl, rfl, _⟩ | ⟨_, h3⟩
    · have hw1 : 1 ≤ (wrd s).length := by
        rw [← hdec]
        cases hx : decDigits n with
        | nil => exact absurd hx (decD_ne n)
        | cons _ _ => simp
      refine TQ.eq (fun m => by rw [cond_true]) (TQ.val ⟨rst s, rfl, hr, fun _ => ⟨by simp [Form.fit, Form.fits]; decide, by show 1 + 0 + 0 + 1 + 2 * (rst s).length ≤ 2 * s.length; omega⟩, ?_⟩)
      unfold rdAtom
      by_cases h125 : (rst s).head? = some 125
      · rw [decide_eq_true h125, cond_true]; exact .inr (.inr ⟨rfl, .inr h125⟩)
      · rw [decide_eq_false h125, cond_false, hn]
        dsimp only
        by_cases h123 : (rst s).head? = some 123
        · rw [decide_eq_true h123, cond_true]; exact .inr (.inr ⟨rfl, .inl h123⟩)
        · rw [decide_eq_false h123, cond_false]
          refine ⟨rfl, rfl, rfl, .inr ?_⟩
          rcases rst_head s with h | h | h
          · exact h
          · exact absurd h h123
          · exact absurd h h125
    · omega
  | none =>
    rw [hn] at h2
    subst h2
    refine TQ.eq (fun m => by rw [cond_false]) (TQ.ev (implNm_tr (mkB (wrd s)) (by rw [mkB_size]; omega)) ?_)
    cases hnm : nmOk (mkB (wrd s)) with
    | false =>
      refine TQ.eq (fun m => by rw [Bool.not_false, cond_true]) (TQ.val (v := (F0, false, ⟨mkB (rst s), true⟩)) ⟨rst s, rfl, hr, fun h => (by cases h), ?_⟩)
      have : rdAtom s = none := by
        unfold rdAtom
        rw [hn, hnm]
        cases decide ((rst s).head? = some 125) <;> rfl
      rw [this]
      exact .inl rfl
    | true =>
      have hw1 := nmOk_len hnm
      refine TQ.eq (fun m => by rw [Bool.not_true, cond_false]) (TQ.ev (prefix_tr (rst s)) ?_)
      have hat : rdAtom s = bif decide ((rst s).head? = some 125) then none else (bif decide ((rst s).head? = some 123) then
        (match rdSets (rst s).tail with
        | none => none
        | some p => some (fName (wrd s) p.1, p.2))
      else some (fName (wrd s) [], rst s)) := by
        unfold rdAtom; rw [hn, hnm]; rfl
      rw [hat]
      by_cases h123 : (rst s).head? = some 123
      · obtain ⟨t, ht⟩ : ∃ t, rst s = 123 :: t := by
          cases hx : rst s with
          | nil => rw [hx] at h123; cases h123
          | cons y t => rw [hx] at h123; simp at h123; subst h123; exact ⟨t, rfl⟩
        rw [ht] at hr hwr ⊢
        rw [List.length_cons] at hwr
        rw [decide_eq_false (show ¬ (123 :: t : List UInt8).head? = some 125 by simp), cond_false, decide_eq_true (show (123 :: t : List UInt8).head? = some 123 from rfl), cond_true]
        rw [show pfx (123 :: t) = (mkB t, true) from rfl]
        refine TQ.eq (fun m => by rw [Bool.not_true, cond_false]) (TQ.ev (cut_tr t (by omega)) ?_)
        cases ha : aft 125 t with
        | nil =>
          refine TQ.eq (fun m => by rw [cond_false]) (TQ.step (fun m => by rw [m_impl_scan_form_j6]) (TQ.ev (split_tr t (by omega)) ?_))
          refine TQ.mono (imp_nums _ _ (cutAt 44 t) (fun w hw => by have := cutAt_mem 44 t w hw; omega) (by have := cutAt_len 44 t; omega) _ 0 _ [] rfl (Nat.zero_le _) rfl) ?_
          rintro q ⟨ns, bad', rfl, e1, e2, e3⟩
          obtain rfl := e2 rfl
          have : rdSets (123 :: t : List UInt8).tail = none := by
            unfold rdSets; rw [List.tail_cons, ha]
          rw [this]
          exact ⟨[], rfl, Nat.zero_le _, fun h => (by cases h), .inl rfl⟩
        | cons y r2 =>
          have hlt := aft_lt ha
          refine TQ.eq (fun m => by rw [cond_false]) (TQ.step (fun m => by rw [m_impl_scan_form_j6]) (TQ.ev (split_tr (bef 125 t) (by omega)) ?_))
          have hcl := cutAt_len 44 (bef 125 t)
          refine TQ.mono (imp_nums _ _ (cutAt 44 (bef 125 t)) (fun w hw => by have := cutAt_mem 44 _ w hw; omega) (by omega) _ 0 _ [] rfl (Nat.zero_le _) rfl) ?_
          rintro q ⟨ns, bad', rfl, e1, e2, e3⟩
          have e3 := e3 rfl
          rw [List.drop_zero] at e1 e3
          have hsets : rdSets (123 :: t : List UInt8).tail = match numsOf (cutAt 44 (bef 125 t)) with | none => none | some ns => bif scOk ns then some (ns, r2) else none := by
            unfold rdSets; rw [List.tail_cons, ha]
          rw [hsets, List.nil_append]
          refine ⟨r2, rfl, by omega, fun _ => ⟨?_, ?_⟩, ?_⟩
          · simp only [Form.fit, Form.fits, and_true, mkB_size, List.length_nil]; omega
          · show 1 + ns.length + 0 + 1 + 2 * r2.length ≤ 2 * s.length
            omega
          · cases hno : numsOf (cutAt 44 (bef 125 t)) with
            | none => rw [hno] at e3; exact .inl e3
            | some l =>
              rw [hno] at e3
              dsimp only
              rcases e3 with ⟨rfl, rfl⟩ | ⟨e5, x, e6, e7⟩
              · cases hsc2 : scOk ns with
                | true => exact ⟨rfl, rfl, rfl, .inl rfl⟩
                | false => exact .inr (.inl (by rw [isOk_nm hd, hsc2, Bool.and_false]))
              · cases hsc2 : scOk l with
                | true => have := (scOk_all hsc2).1 x e6; omega
                | false => exact .inl e5
      · have hpre := pfx_no h123
        rw [hpre, decide_eq_false h123, cond_false]
        refine TQ.eq (fun m => by rw [Bool.not_false, cond_true]) (TQ.val ⟨rst s, rfl, hr, fun _ => ⟨?_, ?_⟩, ?_⟩)
        · simp only [Form.fit, Form.fits, and_true, mkB_size, List.length_nil]; omega
        · show 1 + 0 + 0 + 1 + 2 * (rst s).length ≤ 2 * s.length
          omega
        · by_cases h125 : (rst s).head? = some 125
          · rw [decide_eq_true h125, cond_true]; exact .inr (.inr ⟨rfl, .inr h125⟩)
          · rw [decide_eq_false h125, cond_false]
            refine ⟨rfl, rfl, rfl, .inr ?_⟩
            rcases rst_head s with h | h | h
            · exact h
            · exact absurd h h123
            · exact absurd h h125
theorem rdAtom_ok {s : List UInt8} {p : Form × List UInt8} {d : Nat} (hd : d ≠ 0) (h : rdAtom s = some p) : p.1.isOk d = true := by
  unfold rdAtom at h
  cases h125 : decide ((rst s).head? = some 125) with
  | true => rw [h125] at h; cases h
  | false =>
    rw [h125, cond_false] at h
    cases hn : numOf (wrd s) with
    | some n =>
      rw [hn] at h
      dsimp only at h
      cases h123 : decide ((rst s).head? = some 123) with
      | true => rw [h123] at h; cases h
      | false =>
        rw [h123, cond_false] at h; cases h
        rw [isOk_num hd, decide_eq_true (by omega), decide_eq_true (by have := (numOf_some.1 hn).1; omega)]; rfl
    | none =>
      rw [hn] at h
      dsimp only at h
      cases hnm : nmOk (mkB (wrd s)) with
      | false => rw [hnm] at h; cases h
      | true =>
        rw [hnm, cond_true] at h
        cases h123 : decide ((rst s).head? = some 123) with
        | true =>
          rw [h123, cond_true] at h
          cases hs : rdSets (rst s).tail with
          | none => rw [hs] at h; cases h
          | some q =>
            rw [hs] at h; cases h
            rw [isOk_nm hd, hnm]
            unfold rdSets at hs
            split at hs
            · cases hs
            · split at hs
              · cases hs
              · rename_i ns _
                cases hsc : scOk ns with
                | false => rw [hsc] at hs; cases hs
                | true => rw [hsc, cond_true] at hs; cases hs; rw [hsc]; rfl
        | false =>
          rw [h123, cond_false] at h; cases h
          rw [isOk_nm hd, hnm]; rfl
theorem alls_app {α : Type} (D : α → Bool) (a b : List α) : alls D (a ++ b) = (alls D a && alls D b) := by
  rw [Bool.eq_iff_iff, Bool.and_eq_true, alls_iff, alls_iff, alls_iff]
  constructor
  · exact fun h => ⟨fun x hx => h x (List.mem_append_left _ hx), fun x hx => h x (List.mem_append_right _ hx)⟩
  · rintro ⟨h1, h2⟩ x hx
    rcases List.mem_append.1 hx with h | h
    · exact h1 x h
    · exact h2 x h
theorem rd_ok : ∀ f : Nat, (∀ d s p, rd f d s = some p → p.1.isOk d = true) ∧ (∀ d s acc p, d ≠ 0 → alls (fun x => x.isOk (d - 1)) acc = true → rl f d s acc = some p → alls (fun x => x.isOk (d - 1)) p.1 = true) := by
  intro f
  induction f with
  | zero => exact ⟨fun d s p h => (by rw [rd] at h; cases h), fun d s acc p _ _ h => (by rw [rl] at h; cases h)⟩
  | succ f ih =>
    refine ⟨fun d s p h => ?_, fun d s acc p hd ha h => ?_⟩
    · rw [rd] at h
      split at h
      · cases h
      · rename_i c r _
        by_cases hd : d = 0
        · rw [decide_eq_true hd] at h; cases h
        · rw [decide_eq_false hd, cond_false] at h
          cases hc : decide (c = 40) with
          | true =>
            rw [hc, cond_true] at h
            cases hl : rl f d r [] with
            | none => rw [hl] at h; cases h
            | some q =>
              rw [hl] at h; cases h
              rw [isOk_list hd]
              exact ih.2 d r [] q hd rfl hl
          | false => rw [hc, cond_false] at h; exact rdAtom_ok hd h
    · rw [rl] at h
      split at h
      · cases h
      · rename_i c r _
        cases hc : decide (c = 41) with
        | true => rw [hc, cond_true] at h; cases h; exact ha
        | false =>
          rw [hc, cond_false] at h
          cases hr : rd f (d - 1) (c :: r) with
          | none => rw [hr] at h; cases h
          | some q =>
            rw [hr] at h
            refine ih.2 d q.2 _ p hd ?_ h
            rw [alls_app, ha, Bool.true_and, alls, ih.1 _ _ _ hr]; rfl
theorem imp_bad (x2 : Int) (free : Bool) (s : List UInt8) (acc : List Form) : Tr (fun m => m_impl_scan_form_l2 m x2 free (mkB s) true acc) (F0, false, ⟨mkB (skp s), true⟩) := by
  refine Tr.step (fun m => by rw [m_impl_scan_form_l2]) (Tr.bind (blanks_tr s true) ?_)
  have h : ∀ b, Tr (fun m => m_impl_scan_form_j3 m x2 acc b (mkB (skp s)) true) (F0, false, ⟨mkB (skp s), true⟩) := fun b =>
    Tr.step (fun m => by rw [m_impl_scan_form_j3, cond_true]) (Tr.step (fun m => by rw [m_impl_scan_form_j4, cond_true]) Tr.val)
  dsimp only
  cases decide ((skp s).length < s.length) with
  | true => exact Tr.tt rfl (h true)
  | false => exact Tr.ff rfl (h free)
theorem ImpOk.mono {e : Option (Form × List UInt8)} {s s' : List UInt8} {d : Nat} {f : Form} {free : Bool} {sc : scan} (h : ImpOk e s d f free sc) (hs : s.length ≤ s'.length) : ImpOk e s' d f free sc := by
  obtain ⟨l, h1, h2, h3, h4⟩ := h
  exact ⟨l, h1, by omega, fun hb => ⟨(h3 hb).1, by have := (h3 hb).2; omega⟩, h4⟩
theorem w_pos' (f : Form) : 1 ≤ f.w := by obtain ⟨a, b, c, d, e⟩ := f; rw [Form.w]; omega
theorem byte_ne {c : UInt8} {k : Nat} (hk : k < 256) (h : c ≠ UInt8.ofNat k) : ¬ (c.toNat : Int) = (k : Int) := fun e => h (UInt8.toNat_inj.1 (by rw [UInt8.toNat_ofNat']; omega))
theorem imp_read : ∀ f : Nat,
    (∀ (d : Nat) (s : List UInt8), d ≤ 40 → s.length ≤ 2 ^ 20 → 2 * s.length ≤ f → TQ (fun m => m_impl_scan_form m ⟨mkB s, false⟩ (41 - (d : Int))) (fun q => ImpOk (rd f d s) s d q.1 q.2.1 q.2.2)) ∧
    (∀ (d : Nat) (s : List UInt8) (acc : List Form) (free : Bool) (e : Option (List Form × List UInt8)), d ≤ 40 → d ≠ 0 → s.length ≤ 2 ^ 20 → 2 * s.length + 1 ≤ f → Form.fits acc → Form.ws acc + 2 * s.length ≤ 2 ^ 22 →
      ((e = none ∧ (alls (fun x => x.isOk (d - 1)) acc = false ∨ (free = false ∧ noH s))) ∨ (e = rl f d s acc ∧ alls (fun x => x.isOk (d - 1)) acc = true ∧ (free = true ∨ okH s))) →
      TQ (fun m => m_impl_scan_form_l2 m (41 - (d : Int)) free (mkB s) false acc) (fun q => ImpOkL e s acc d q.1 q.2.1 q.2.2)) := by
  intro f
  induction f with
  | zero =>
    refine ⟨fun d s hd hs hf => ?_, fun d s acc free e hd hd0 hs hf => by omega⟩
    obtain rfl := List.eq_nil_of_length_eq_zero (l := s) (by omega)
    refine TQ.step (fun m => by rw [m_impl_scan_form]) (TQ.ev (blanks_tr [] false) ?_)
    refine TQ.eq (fun m => by rw [show (decide ((((decide ((skp []).length < ([] : List UInt8).length), ({ s := mkB (skp []), bad := false } : scan)) : Bool × scan).2).s = (⟨#[]⟩ : ByteArray))) = true from decide_eq_true rfl, cond_true]) ?_
    refine TQ.step (fun m => by rw [m_impl_scan_form_j1, cond_true]) (TQ.val ⟨[], rfl, Nat.le_refl _, fun h => (by cases h), ?_⟩)
    rw [rd]; exact .inl rfl
  | succ f ih =>
    refine ⟨fun d s hd hs hf => ?_, fun d s acc free e hd hd0 hs hf hfit hws he => ?_⟩
    · have hk := skp_le s
      refine TQ.step (fun m => by rw [m_impl_scan_form]) (TQ.ev (blanks_tr s false) ?_)
      rw [rd]
      dsimp only
      generalize decide ((skp s).length < s.length) = b0
      cases hsk : skp s with
      | nil =>
        refine TQ.eq (fun m => by rw [show (decide (mkB [] = (⟨#[]⟩ : ByteArray))) = true from decide_eq_true rfl, cond_true]) ?_
        exact TQ.step (fun m => by rw [m_impl_scan_form_j1, cond_true]) (TQ.val ⟨[], rfl, Nat.zero_le _, fun h => (by cases h), .inl rfl⟩)
      | cons c r =>
        rw [hsk, List.length_cons] at hk
        dsimp only
        refine TQ.eq (fun m => by rw [mkB_empty, decide_eq_false (by simp), cond_false]) ?_
        by_cases hd0 : d = 0
        · subst hd0
          rw [decide_eq_true rfl, cond_true]
          refine TQ.eq (fun m => by rw [decide_eq_true (by omega)]) ?_
          exact TQ.step (fun m => by rw [m_impl_scan_form_j1, cond_true]) (TQ.val ⟨c :: r, rfl, by rw [List.length_cons]; omega, fun h => (by cases h), .inl rfl⟩)
        · rw [decide_eq_false hd0, cond_false]
          refine TQ.eq (fun m => by rw [decide_eq_false (by omega)]) ?_
          by_cases hc : c = 40
          · subst hc
            rw [decide_eq_true rfl, cond_true]
            refine TQ.step (fun m => by rw [m_impl_scan_form_j1, cond_false]) ?_
            have hbi : Tr (fun _ : Nat => bidx (mkB (40 :: r)) 0) 40 := Tr.of fun m => bidx_mk (w := 40 :: r) (k := 0) (x := 40) rfl
            have hbs : Tr (fun _ : Nat => bsub (mkB (40 :: r)) 1 ((mkB (40 :: r)).size : Int)) (mkB r) := Tr.of fun m => by
              rw [mkB_size]; have := bsub_mk (40 :: r) (i := 1) (j := (40 :: r : List UInt8).length) (by simp) (Nat.le_refl _); rw [List.take_length] at this; exact this
            refine TQ.ev hbi (TQ.eq (fun m => by rw [show decide ((40 : Int) = 40) = true from rfl, cond_true]) (TQ.ev hbs ?_))
            refine TQ.mono ((ih.2 d r [] true (rl f d r []) hd hd0 (by omega) (by omega) Form.fits_nil (by rw [Form.ws]; omega) (.inr ⟨rfl, rfl, .inl rfl⟩))) ?_
            rintro ⟨g, fr, sc⟩ ⟨l, h1, h2, h3, h4⟩
            refine ⟨l, h1, by omega, fun hb => ⟨(h3 hb).2.1, by have := (h3 hb).2.2; rw [Form.ws] at this; omega⟩, ?_⟩
            cases hrl : rl f d r [] with
            | none =>
              rw [hrl] at h4
              rcases h4 with h4 | h4
              · exact .inl h4
              · exact .inr (.inl h4)
            | some p =>
              rw [hrl] at h4
              exact ⟨h4.1, h4.2.1, h4.2.2, .inl (h3 h4.2.1).1⟩
          · rw [decide_eq_false hc, cond_false]
            exact TQ.mono (imp_atom (c :: r) d hd0 (by rw [List.length_cons]; omega) _ b0 c r rfl hc) (fun q hq => hq.mono (by rw [List.length_cons]; omega))
    · have hk := skp_le s
      refine TQ.step (fun m => by rw [m_impl_scan_form_l2]) (TQ.ev (blanks_tr s false) ?_)
      dsimp only
      -- what is known behind the blanks
      have key : ∀ fr : Bool, ((e = none ∧ (alls (fun x => x.isOk (d - 1)) acc = false ∨ (fr = false ∧ noH (skp s)))) ∨ (e = rl (f + 1) d s acc ∧ alls (fun x => x.isOk (d - 1)) acc = true ∧ (fr = true ∨ okH (skp s)))) →
          TQ (fun m => m_impl_scan_form_j3 m (41 - (d : Int)) acc fr (mkB (skp s)) false) (fun q => ImpOkL e s acc d q.1 q.2.1 q.2.2) := by
        intro fr hfr
        refine TQ.step (fun m => by rw [m_impl_scan_form_j3, cond_false]) ?_
        have hrl : rl (f + 1) d s acc = match skp s with
          | [] => none
          | c :: r => bif decide (c = 41) then some (acc, r) else
            match rd f (d - 1) (c :: r) with
            | none => none
            | some p => rl f d p.2 (acc ++ [p.1]) := by rw [rl]
        rw [hrl] at hfr
        cases hsk : skp s with
        | nil =>
          rw [hsk] at hfr
          refine TQ.eq (fun m => by rw [show (decide (mkB [] = (⟨#[]⟩ : ByteArray))) = true from decide_eq_true rfl]) ?_
          refine TQ.step (fun m => by rw [m_impl_scan_form_j4, cond_true]) (TQ.val ⟨[], rfl, Nat.zero_le _, fun h => (by cases h), ?_⟩)
          have : e = none := by
            rcases hfr with h | h
            · exact h.1
            · exact h.1
          rw [this]; exact .inl rfl
        | cons c r =>
          rw [hsk, List.length_cons] at hk
          rw [hsk] at hfr
          dsimp only at hfr
          have hc32 := skp_head hsk
          refine TQ.eq (fun m => by rw [mkB_empty, decide_eq_false (by simp)]) (TQ.step (fun m => by rw [m_impl_scan_form_j4, cond_false]) ?_)
          have hbi : Tr (fun _ : Nat => bidx (mkB (c :: r)) 0) (c.toNat : Int) := Tr.of fun m => bidx_mk (w := c :: r) (k := 0) (x := c) rfl
          refine TQ.ev hbi ?_
          by_cases hc : c = 41
          · subst hc
            have hbs : Tr (fun _ : Nat => bsub (mkB (41 :: r)) 1 ((mkB (41 :: r)).size : Int)) (mkB r) := Tr.of fun m => by
              rw [mkB_size]; have := bsub_mk (41 :: r) (i := 1) (j := (41 :: r : List UInt8).length) (by simp) (Nat.le_refl _); rw [List.take_length] at this; exact this
            refine TQ.eq (fun m => by rw [show decide (((41 : UInt8).toNat : Int) = 41) = true from rfl, cond_true]) (TQ.ev hbs ?_)
            refine TQ.val (v := (fList acc, true, scan.mk (mkB r) false)) ?_
            refine ⟨r, rfl, by omega, fun _ => ⟨rfl, ?_, ?_⟩, ?_⟩
            · show (fList acc).fit
              rw [Form.fit]
              have := Form.ws_len acc
              exact ⟨by decide, by decide, by omega, hfit⟩
            · show 1 + 0 + Form.ws acc + 1 + 2 * r.length ≤ 2 * s.length + Form.ws acc
              omega
            · rw [decide_eq_true rfl, cond_true] at hfr
              rcases hfr with ⟨rfl, h | ⟨_, h | h⟩⟩ | ⟨rfl, _⟩
              · exact .inr (by rw [isOk_list hd0]; exact h)
              · exact absurd (Option.some.inj h) (by decide)
              · exact absurd (Option.some.inj h) (by decide)
              · exact ⟨rfl, rfl, rfl⟩
          · have hc41 : ¬ (c.toNat : Int) = 41 := byte_ne (k := 41) (by decide) hc
            rw [decide_eq_false hc, cond_false] at hfr
            refine TQ.eq (fun m => by rw [decide_eq_false hc41, cond_false]) ?_
            -- one more form is read
            have go : ((e = none ∧ alls (fun x => x.isOk (d - 1)) acc = false) ∨ (e = (match rd f (d - 1) (c :: r) with | none => none | some p => rl f d p.2 (acc ++ [p.1])) ∧ alls (fun x => x.isOk (d - 1)) acc = true)) →
                TQ (fun m => m_impl_scan_form_j5 m (41 - (d : Int)) acc (mkB (c :: r)) false false) (fun q => ImpOkL e s acc d q.1 q.2.1 q.2.2) := by
              intro hst
              have hI := ih.1 (d - 1) (c :: r) (by omega) (by rw [List.length_cons]; omega) (by rw [List.length_cons]; omega)
              rw [show (41 : Int) - ((d - 1 : Nat) : Int) = 41 - (d : Int) + 1 by omega] at hI
              refine TQ.step (fun m => by rw [m_impl_scan_form_j5, cond_false, w64_in (by omega)]) (TQ.bind hI ?_)
              rintro ⟨k, nx, sc⟩ ⟨l, h1, h2, h3, h4⟩
              have hal := Form.ws_len acc
              refine TQ.chk (decide_eq_true (by simp only [List.length_singleton]; omega)) ?_
              obtain ⟨s1, bad⟩ := sc
              dsimp only at h1 h3 h4 ⊢
              subst h1
              rw [List.length_cons] at h2 h3
              cases bad with
              | true =>
                refine TQ.mono (Q := fun q => q = (F0, false, ⟨mkB (skp l), true⟩)) ⟨_, imp_bad _ _ _ _, rfl⟩ ?_
                rintro q rfl
                refine ⟨skp l, rfl, by have := skp_le l; omega, fun h => (by cases h), ?_⟩
                have : e = none := by
                  rcases hst with h | h
                  · exact h.1
                  · rw [h.1]
                    cases hrd : rd f (d - 1) (c :: r) with
                    | none => rfl
                    | some p => rw [hrd] at h4; cases h4.2.1
                rw [this]; exact .inl rfl
              | false =>
                obtain ⟨k1, k2⟩ := h3 rfl
                have kp := w_pos' k
                have hl : ∀ e', e' = e → ((e' = none ∧ (alls (fun x => x.isOk (d - 1)) (acc ++ [k]) = false ∨ (nx = false ∧ noH l))) ∨ (e' = rl f d l (acc ++ [k]) ∧ alls (fun x => x.isOk (d - 1)) (acc ++ [k]) = true ∧ (nx = true ∨ okH l))) := by
                  rintro e' rfl
                  rcases hst with ⟨h, h'⟩ | ⟨h, h'⟩
                  · exact .inl ⟨h, .inl (by rw [alls_app, h']; rfl)⟩
                  · cases hrd : rd f (d - 1) (c :: r) with
                    | none =>
                      rw [hrd] at h h4
                      rcases h4 with h4 | h4 | h4
                      · cases h4
                      · exact .inl ⟨h, .inl (by rw [alls_app, h', alls, h4]; rfl)⟩
                      · exact .inl ⟨h, .inr h4⟩
                    | some p =>
                      rw [hrd] at h h4
                      obtain ⟨rfl, _, rfl, h5⟩ := h4
                      exact .inr ⟨h, by rw [alls_app, h', alls, (rd_ok f).1 _ _ _ hrd]; rfl, h5⟩
                have hwa : Form.ws (acc ++ [k]) = Form.ws acc + (1 + k.w) := by rw [Form.ws_append]; rfl
                refine TQ.mono (ih.2 d l (acc ++ [k]) nx e hd hd0 (by omega) (by omega) (Form.fits_app hfit (Form.fits_one k1)) (by omega) (hl e rfl)) ?_
                rintro ⟨g, fr2, sc2⟩ ⟨l2, g1, g2, g3, g4⟩
                exact ⟨l2, g1, by omega, fun hb => ⟨(g3 hb).1, (g3 hb).2.1, by have := (g3 hb).2.2; omega⟩, g4⟩
            cases fr with
            | true =>
              refine TQ.eq (fun m => by rw [Bool.not_true, cond_false]) (go ?_)
              rcases hfr with ⟨h, h' | ⟨h', _⟩⟩ | ⟨h, h', _⟩
              · exact .inl ⟨h, h'⟩
              · cases h'
              · exact .inr ⟨h, h'⟩
            | false =>
              refine TQ.eq (fun m => by rw [Bool.not_false, cond_true]) (TQ.ev hbi ?_)
              by_cases h40 : c = 40
              · subst h40
                refine TQ.eq (fun m => by rw [show decide (((40 : UInt8).toNat : Int) ≠ 40) = false from rfl]) (go ?_)
                rcases hfr with ⟨h, h' | ⟨_, h' | h'⟩⟩ | ⟨h, h', _⟩
                · exact .inl ⟨h, h'⟩
                · exact absurd (Option.some.inj h') (by decide)
                · exact absurd (Option.some.inj h') (by decide)
                · exact .inr ⟨h, h'⟩
              · have hc40 : (c.toNat : Int) ≠ 40 := byte_ne (k := 40) (by decide) h40
                refine TQ.eq (fun m => by rw [decide_eq_true hc40]) ?_
                refine TQ.step (fun m => by rw [m_impl_scan_form_j5, cond_true]) (TQ.val ⟨c :: r, rfl, by rw [List.length_cons]; omega, fun h => (by cases h), ?_⟩)
                have : e = none := by
                  rcases hfr with h | ⟨h, h', h2 | h2⟩
                  · exact h.1
                  · cases h2
                  · rcases h2 with h2 | h2 | h2 | h2 <;> simp at h2
                    · exact absurd h2 hc32
                    · exact absurd h2 h40
                    · exact absurd h2 hc
                rw [this]; exact .inl rfl
      have hsame : ¬ (skp s).length < s.length → skp s = s := fun h => by
        have h1 := skp_sub s
        rw [show s.length - (skp s).length = 0 by omega] at h1; exact h1
      by_cases hb : (skp s).length < s.length
      · refine TQ.eq (fun m => by rw [decide_eq_true hb, cond_true]) (key true ?_)
        rcases he with ⟨h, h' | ⟨_, h'⟩⟩ | ⟨h, h', _⟩
        · exact .inl ⟨h, .inl h'⟩
        · exfalso
          cases s with
          | nil => rcases h' with h' | h' <;> cases h'
          | cons y t =>
            have hy : y ≠ 32 := fun e => by subst e; rcases h' with h' | h' <;> simp at h'
            rw [skp_cons, if_neg hy] at hb; omega
        · exact .inr ⟨h, h', .inl rfl⟩
      · refine TQ.eq (fun m => by rw [decide_eq_false hb, cond_false]) (key free ?_)
        rw [hsame hb]
        exact he
end Go.Abs
end
section
set_option linter.unusedVariables false
set_option linter.unusedSimpArgs false
set_option maxHeartbeats 4000000
namespace Go.Abs
open Go.Lib (itoa decDigits)
theorem byte_ne' {c : UInt8} {k : Nat} (hk : k < 256) : ((c.toNat : Int) = (k : Int)) ↔ c = UInt8.ofNat k := by
  constructor
  · intro h
    exact UInt8.toNat_inj.1 (by rw [UInt8.toNat_ofNat']; omega)
  · rintro rfl
    rw [UInt8.toNat_ofNat']; omega
theorem dec_byte (c : UInt8) (k : Nat) (hk : k < 256) : decide ((c.toNat : Int) = (k : Int)) = decide (c = UInt8.ofNat k) := by
  rw [Bool.eq_iff_iff, decide_eq_true_iff, decide_eq_true_iff]; exact byte_ne' hk
theorem dec_byte' (c : UInt8) (k : Nat) (hk : k < 256) : decide ((c.toNat : Int) ≠ (k : Int)) = decide (c ≠ UInt8.ofNat k) := by
  rw [Bool.eq_iff_iff, decide_eq_true_iff, decide_eq_true_iff, ne_eq, ne_eq, byte_ne' hk]
theorem skip_tr (l : List UInt8) (hl : l.length ≤ 2 ^ 40) : ∀ (t : List UInt8) (k : Nat), l.drop k = t → k ≤ l.length → ∃ k' : Nat, Tr (fun m => m_spec_l1Skip m (mkB l) (k : Int)) (k' : Int) ∧ k ≤ k' ∧ k' ≤ l.length ∧ l.drop k' = skp t := by
  intro t
  induction t with
  | nil =>
    intro k hd hk
    have hk' : k = l.length := by have := List.drop_eq_nil_iff.1 hd; omega
    refine ⟨k, Tr.eq (fun m => by unfold m_spec_l1Skip; rfl) (Tr.step (fun m => by rw [m_spec_l1Skip_l1, mkB_size, decide_eq_false (by omega), cond_false]) Tr.val), Nat.le_refl _, hk, hd⟩
  | cons c r ih =>
    intro k hd hk
    obtain ⟨hc, hk2, hd2⟩ := dropC hd
    rw [skp_cons]
    by_cases h : c = 32
    · rw [if_pos h]
      obtain ⟨k', h1, h2, h3, h4⟩ := ih (k + 1) hd2 (by omega)
      refine ⟨k', ?_, by omega, h3, h4⟩
      have h1 : Tr (fun m => m_spec_l1Skip_l1 m (mkB l) ((k + 1 : Nat) : Int)) (k' : Int) := h1
      refine Tr.eq (fun m => by unfold m_spec_l1Skip; rfl) (Tr.step (fun m => by rw [m_spec_l1Skip_l1, mkB_size, decide_eq_true (by omega), cond_true, bidx_mk hc, Option.bind_some]) ?_)
      refine Tr.tt (decide_eq_true (by subst h; decide)) (Tr.eq (fun m => by rw [w64_in (by omega), succN]) h1)
    · rw [if_neg h]
      refine ⟨k, ?_, Nat.le_refl _, hk, hd⟩
      refine Tr.eq (fun m => by unfold m_spec_l1Skip; rfl) (Tr.step (fun m => by rw [m_spec_l1Skip_l1, mkB_size, decide_eq_true (by omega), cond_true, bidx_mk hc, Option.bind_some]) ?_)
      exact Tr.ff (decide_eq_false (byte_ne (k := 32) (by decide) h)) Tr.val
def dlm2 (b : UInt8) : Bool := [32, 40, 41, 123].contains b
def wrd2 (l : List UInt8) : List UInt8 := l.takeWhile fun b => !dlm2 b
def rst2 (l : List UInt8) : List UInt8 := l.dropWhile fun b => !dlm2 b
theorem wrd2_rst2 (l : List UInt8) : wrd2 l ++ rst2 l = l := List.takeWhile_append_dropWhile
theorem wrd2_cons (c : UInt8) (l : List UInt8) : wrd2 (c :: l) = bif dlm2 c then [] else c :: wrd2 l := by
  unfold wrd2; rw [List.takeWhile]; cases dlm2 c <;> rfl
theorem rst2_cons (c : UInt8) (l : List UInt8) : rst2 (c :: l) = bif dlm2 c then c :: l else rst2 l := by
  unfold rst2; rw [List.dropWhile]; cases dlm2 c <;> rfl
theorem wrd_cons (c : UInt8) (l : List UInt8) : wrd (c :: l) = bif dlm c then [] else c :: wrd l := by
  unfold wrd; rw [List.takeWhile]; cases dlm c <;> rfl
theorem rst_cons (c : UInt8) (l : List UInt8) : rst (c :: l) = bif dlm c then c :: l else rst l := by
  unfold rst; rw [List.dropWhile]; cases dlm c <;> rfl
theorem dlm_2 (c : UInt8) : dlm c = (dlm2 c || decide (c = 125)) := by
  unfold dlm dlm2
  rw [Bool.eq_iff_iff]
  simp [or_assoc]
theorem wrd2_wrd : ∀ l : List UInt8, ((rst l).head? = some 125 ∧ (125 : UInt8) ∈ wrd2 l) ∨ ((rst l).head? ≠ some 125 ∧ wrd2 l = wrd l ∧ rst2 l = rst l)
  | [] => .inr ⟨by simp [rst], rfl, rfl⟩
  | c :: l => by
    rw [wrd2_cons, rst2_cons, wrd_cons, rst_cons, dlm_2]
    cases h2 : dlm2 c with
    | true =>
      refine .inr ⟨?_, rfl, rfl⟩
      intro e
      have : c = 125 := by simpa using e
      subst this; cases h2
    | false =>
      by_cases h : c = 125
      · subst h
        exact .inl ⟨rfl, List.mem_cons_self ..⟩
      · rw [decide_eq_false h]
        simp only [Bool.or_false, cond_false]
        rcases wrd2_wrd l with ⟨h1, h3⟩ | ⟨h1, h3, h4⟩
        · exact .inl ⟨h1, List.mem_cons_of_mem _ h3⟩
        · exact .inr ⟨h1, by rw [h3], h4⟩
theorem word2_tr (l : List UInt8) (hl : l.length ≤ 2 ^ 40) : ∀ (t : List UInt8) (k : Nat), l.drop k = t → k ≤ l.length → Tr (fun m => m_spec_l1Word m (mkB l) (k : Int)) ((k + (wrd2 t).length : Nat) : Int) := by
  intro t
  induction t with
  | nil =>
    intro k hd hk
    have hk' : k = l.length := by have := List.drop_eq_nil_iff.1 hd; omega
    exact Tr.eq (fun m => by unfold m_spec_l1Word; rfl) (Tr.step (fun m => by rw [m_spec_l1Word_l1, mkB_size, decide_eq_false (by omega), cond_false]; rfl) Tr.val)
  | cons c r ih =>
    intro k hd hk
    obtain ⟨hc, hk2, hd2⟩ := dropC hd
    rw [wrd2_cons]
    have hb := bidx_mk hc
    have hbt : Tr (fun _ : Nat => bidx (mkB l) (k : Int)) (c.toNat : Int) := Tr.of fun _ => hb
    refine Tr.eq (fun m => by unfold m_spec_l1Word; rfl) (Tr.step (fun m => by rw [m_spec_l1Word_l1, mkB_size, decide_eq_true (by omega), cond_true]) (Tr.bind hbt ?_))
    have e1 := dec_byte' c 32 (by decide)
    have e2 := dec_byte' c 40 (by decide)
    have e3 := dec_byte' c 41 (by decide)
    have e4 := dec_byte' c 123 (by decide)
    have stop : dlm2 c = true → Tr (fun _ : Nat => some (k : Int)) ((k + (bif dlm2 c then ([] : List UInt8) else c :: wrd2 r).length : Nat) : Int) := fun h => by rw [h]; exact Tr.val
    by_cases h32 : c = 32
    · exact Tr.ff (by rw [show (32 : Int) = ((32 : Nat) : Int) from rfl, e1, decide_eq_false (by simpa using h32)]) (stop (by subst h32; rfl))
    · refine Tr.tt (by rw [show (32 : Int) = ((32 : Nat) : Int) from rfl, e1, decide_eq_true (by exact h32)]) (Tr.bind hbt ?_)
      by_cases h40 : c = 40
      · exact Tr.ff (by rw [show (40 : Int) = ((40 : Nat) : Int) from rfl, e2, decide_eq_false (by simpa using h40)]) (stop (by subst h40; rfl))
      · refine Tr.tt (by rw [show (40 : Int) = ((40 : Nat) : Int) from rfl, e2, decide_eq_true (by exact h40)]) (Tr.bind hbt ?_)
        by_cases h41 : c = 41
        · exact Tr.ff (by rw [show (41 : Int) = ((41 : Nat) : Int) from rfl, e3, decide_eq_false (by simpa using h41)]) (stop (by subst h41; rfl))
        · refine Tr.tt (by rw [show (41 : Int) = ((41 : Nat) : Int) from rfl, e3, decide_eq_true (by exact h41)]) (Tr.bind hbt ?_)
          by_cases h123 : c = 123
          · exact Tr.ff (by rw [show (123 : Int) = ((123 : Nat) : Int) from rfl, e4, decide_eq_false (by simpa using h123)]) (stop (by subst h123; rfl))
          · have hdl : dlm2 c = false := by
              unfold dlm2; simp; exact ⟨h32, h40, h41, h123⟩
            rw [hdl, cond_false, List.length_cons]
            have h1 : Tr (fun m => m_spec_l1Word_l1 m (mkB l) ((k + 1 : Nat) : Int)) _ := ih (k + 1) hd2 (by omega)
            rw [show k + ((wrd2 r).length + 1) = k + 1 + (wrd2 r).length by omega]
            exact Tr.tt (by rw [show (123 : Int) = ((123 : Nat) : Int) from rfl, e4, decide_eq_true (by exact h123)]) (Tr.eq (fun m => by rw [w64_in (by omega), succN]) h1)
def preC (cur : List UInt8) : List (List UInt8) → List (List UInt8)
  | [] => [cur]
  | y :: ys => (cur ++ y) :: ys
theorem preC_cons (c : UInt8) (cur : List UInt8) (x : UInt8) (r : List UInt8) : preC cur (cutAt c (x :: r)) = if x = c then cur :: cutAt c r else preC (cur ++ [x]) (cutAt c r) := by
  rw [cutAt]
  by_cases h : x = c
  · rw [if_pos h, if_pos h, preC, List.append_nil]
  · rw [if_neg h, if_neg h]
    cases cutAt c r with
    | nil => rfl
    | cons y ys => simp [preC]
theorem preC_nil (c : UInt8) (r : List UInt8) : preC [] (cutAt c r) = cutAt c r := by
  cases h : cutAt c r with
  | nil => exact absurd h (cutAt_ne c r)
  | cons y ys => rfl
theorem cut_loop (s : List UInt8) (hs : s.length ≤ 2 ^ 30) : ∀ (t : List UInt8) (i fr : Nat) (out : List ByteArray), s.drop i = t → i ≤ s.length → fr ≤ i → out.length ≤ i →
    Tr (fun m => m_spec_l15Cut_l1 m (mkB s) 44 out (fr : Int) (i : Int)) (out ++ (preC ((s.take i).drop fr) (cutAt 44 t)).map mkB) := by
  intro t
  induction t with
  | nil =>
    intro i fr out hd hi hf ho
    have hi' : i = s.length := by have := List.drop_eq_nil_iff.1 hd; omega
    refine Tr.step (fun m => by rw [m_spec_l15Cut_l1, mkB_size, decide_eq_true (by omega), cond_true, decide_eq_true (by omega), cond_true]) ?_
    have hbs := bsub_mk s hf hi
    refine Tr.step (fun m => by rw [m_spec_l15Cut_j2, cond_true, hbs, Option.bind_some]) (Tr.chk (decide_eq_true (by simp only [List.length_singleton]; omega)) ?_)
    refine Tr.step (fun m => by rw [m_spec_l15Cut_l1, mkB_size, w64_in (by omega), decide_eq_false (by omega), cond_false]) ?_
    simp only [cutAt, preC, List.append_nil, List.map_cons, List.map_nil]
    exact Tr.val
  | cons c r ih =>
    intro i fr out hd hi hf ho
    obtain ⟨hc, hk2, hd2⟩ := dropC hd
    have hcur : (s.take (i + 1)).drop fr = (s.take i).drop fr ++ [c] := by
      rw [List.take_add_one, hc]
      have : fr ≤ (s.take i).length := by rw [List.length_take]; omega
      rw [List.drop_append_of_le_length this]; rfl
    refine Tr.step (fun m => by rw [m_spec_l15Cut_l1, mkB_size, decide_eq_true (by omega), cond_true, decide_eq_false (by omega), cond_false, bidx_mk hc, Option.bind_some, show (44 : Int) = ((44 : Nat) : Int) from rfl, dec_byte c 44 (by decide)]) ?_
    rw [preC_cons]
    by_cases h : c = 44
    · rw [if_pos h, decide_eq_true (by exact h)]
      refine Tr.step (fun m => by rw [m_spec_l15Cut_j2, cond_true, bsub_mk s hf hi, Option.bind_some]) (Tr.chk (decide_eq_true (by simp only [List.length_singleton]; omega)) ?_)
      have := ih (i + 1) (i + 1) (out ++ [mkB ((s.take i).drop fr)]) hd2 (by omega) (Nat.le_refl _) (by rw [List.length_append, List.length_singleton]; omega)
      rw [show (s.take (i + 1)).drop (i + 1) = [] by rw [List.drop_eq_nil_iff, List.length_take]; omega, preC_nil] at this
      refine Tr.eq (fun m => by rw [w64_in (by omega), succN]) ?_
      rw [List.map_cons]
      rw [List.append_assoc] at this
      exact this
    · rw [if_neg h, decide_eq_false (by exact h)]
      refine Tr.step (fun m => by rw [m_spec_l15Cut_j2, cond_false, w64_in (by omega), succN]) ?_
      have := ih (i + 1) fr out hd2 (by omega) (by omega) (by omega)
      rw [hcur] at this
      exact this
theorem l15Cut_tr (s : List UInt8) (hs : s.length ≤ 2 ^ 30) : Tr (fun m => m_spec_l15Cut m (mkB s) 44) ((cutAt 44 s).map mkB) := by
  have := cut_loop s hs s 0 0 [] rfl (Nat.zero_le _) (Nat.le_refl _) (Nat.le_refl _)
  rw [List.take_zero, List.drop_nil, preC_nil, List.nil_append] at this
  exact Tr.eq (fun m => by unfold m_spec_l15Cut; rfl) this
theorem spc_nums (g : Int) (hg : 0 ≤ g ∧ g ≤ 2 ^ 40) (ps : List (List UInt8)) (hps : ∀ w ∈ ps, w.length ≤ 2 ^ 40) (hlen : ps.length ≤ 2 ^ 30) :
    ∀ (t : List (List UInt8)) (k : Nat) (ns : List Int), ps.drop k = t → k ≤ ps.length → k ≤ 25 → ns.length = k →
      TQ (fun m => m_spec_l1Sets_l4 m g (ps.map mkB) ns (k : Int)) (fun q => (q.2 = -1 ∧ numsOf t = none) ∨ (q.2 = g + 1 ∧ ∃ ns', q.1 = ns ++ ns' ∧
        ((ns'.length = 25 - k ∧ 25 - k < t.length) ∨ (ns'.length = t.length ∧ match numsOf t with | some l => ns' = l | none => ∃ x ∈ ns', x < 0 ∨ 999 < x)))) := by
  intro t
  induction t with
  | nil =>
    intro k ns hd hk hk2 hn
    have hk' : k = ps.length := by have := List.drop_eq_nil_iff.1 hd; omega
    refine TQ.step (fun m => by rw [m_spec_l1Sets_l4, List.length_map, hk', ltN_self, cond_false]) (TQ.step (fun m => by rw [m_spec_l1Sets_j5, cond_false, w64_in (by omega)]) (TQ.val (.inr ⟨rfl, [], by rw [List.append_nil], .inr ⟨rfl, ?_⟩⟩)))
    rw [numsOf]
  | cons w r ih =>
    intro k ns hd hk hk25 hn
    obtain ⟨hc, hk2, hd2⟩ := dropC hd
    refine TQ.step (fun m => by rw [m_spec_l1Sets_l4, List.length_map, ltN hk2, cond_true]) ?_
    by_cases h24 : k ≤ 24
    · obtain ⟨v, b, h1, _, h2⟩ := specNum_tr w (hps w (List.mem_of_getElem? hc))
      have hidx : idx (ps.map mkB) (k : Int) = some (mkB w) := idx_nat (by rw [List.getElem?_map, hc]; rfl)
      refine TQ.step (fun m => by rw [m_spec_l1Sets_j5, decide_eq_true (by omega), cond_true, hidx, Option.bind_some]) (TQ.ev h1 ?_)
      cases b with
      | false =>
        refine TQ.eq (fun m => by rw [Bool.not_false, cond_true]) (TQ.val (.inl ⟨rfl, ?_⟩))
        rw [numsOf]
        cases hno : numOf w with
        | none => rfl
        | some n => rw [hno] at h2; cases h2.1
      | true =>
        refine TQ.eq (fun m => by rw [Bool.not_true, cond_false]) (TQ.chk (decide_eq_true (by simp only [List.length_singleton]; omega)) ?_)
        refine TQ.mono (TQ.eq (fun m => by rw [w64_in (by omega), succN]) (ih (k + 1) (ns ++ [v]) hd2 (by omega) (by omega) (by rw [List.length_append, List.length_singleton]; omega))) ?_
        rintro q (⟨g1, g2⟩ | ⟨g1, ns', g2, g3⟩)
        · refine .inl ⟨g1, ?_⟩
          rw [numsOf, g2]
          cases numOf w <;> rfl
        · refine .inr ⟨g1, v :: ns', by rw [g2, List.append_assoc]; rfl, ?_⟩
          rcases g3 with ⟨g3, g4⟩ | ⟨g3, g4⟩
          · left; rw [List.length_cons, List.length_cons]; omega
          · right
            refine ⟨by rw [List.length_cons, List.length_cons, g3], ?_⟩
            rw [numsOf]
            cases hno : numOf w with
            | none =>
              rw [hno] at h2
              exact ⟨v, List.mem_cons_self .., h2 rfl⟩
            | some n =>
              rw [hno] at h2
              cases hr : numsOf r with
              | none =>
                rw [hr] at g4
                obtain ⟨x, g5, g6⟩ := g4
                exact ⟨x, List.mem_cons_of_mem _ g5, g6⟩
              | some l =>
                rw [hr] at g4
                show v :: ns' = (n : Int) :: l
                rw [g4, h2.2]
    · refine TQ.step (fun m => by rw [m_spec_l1Sets_j5, decide_eq_false (by omega), cond_false, w64_in (by omega)]) (TQ.val (.inr ⟨rfl, [], by rw [List.append_nil], .inl ⟨by simp; omega, by rw [List.length_cons]; omega⟩⟩))
theorem brace_tr (l : List UInt8) (hl : l.length ≤ 2 ^ 30) (x2 : Int) {R : List Int × Int → Prop} : ∀ (t : List UInt8) (k : Nat), l.drop k = t → k ≤ l.length →
    TQ (fun m => m_spec_l1Sets_j2 m (mkB l) x2 ((k + (bef 125 t).length : Nat) : Int)) R → TQ (fun m => m_spec_l1Sets_l3 m (mkB l) x2 (k : Int)) R := by
  intro t
  induction t with
  | nil =>
    intro k hd hk h
    have hk' : k = l.length := by have := List.drop_eq_nil_iff.1 hd; omega
    exact TQ.step (fun m => by rw [m_spec_l1Sets_l3, mkB_size, decide_eq_false (by omega), cond_false]; rfl) h
  | cons c r ih =>
    intro k hd hk h
    obtain ⟨hc, hk2, hd2⟩ := dropC hd
    rw [bef_cons] at h
    refine TQ.step (fun m => by rw [m_spec_l1Sets_l3, mkB_size, decide_eq_true (by omega), cond_true, bidx_mk hc, Option.bind_some, show (125 : Int) = ((125 : Nat) : Int) from rfl, dec_byte' c 125 (by decide)]) ?_
    by_cases h125 : c = 125
    · rw [if_pos h125] at h
      exact TQ.eq (fun m => by rw [decide_eq_false (by simpa using h125), cond_false]; rfl) h
    · rw [if_neg h125, List.length_cons] at h
      refine TQ.eq (fun m => by rw [decide_eq_true (by exact h125), cond_true, w64_in (by omega), succN]) (ih (k + 1) hd2 (by omega) ?_)
      rw [show k + 1 + (bef 125 r).length = k + ((bef 125 r).length + 1) by omega]; exact h
end Go.Abs
end
section
set_option linter.unusedVariables false
set_option linter.unusedSimpArgs false
set_option maxHeartbeats 4000000
namespace Go.Abs
open Go.Lib (itoa decDigits)
theorem scOk_len {l : List Int} (h : 24 < l.length) : scOk l = false := by
  unfold scOk; rw [decide_eq_false (by omega), Bool.and_false]
theorem scOk_out {l : List Int} {x : Int} (hx : x ∈ l) (h : x < 0 ∨ 999 < x) : scOk l = false := by
  cases hs : scOk l with
  | false => rfl
  | true => have := (scOk_all hs).1 x hx; omega
theorem spc_sets (l : List UInt8) (hl : l.length ≤ 2 ^ 20) (k : Nat) (t : List UInt8) (hd : l.drop k = 123 :: t) :
    TQ (fun m => m_spec_l1Sets m (mkB l) (k : Int)) (fun q => (q.2 = -1 ∧ rdSets t = none) ∨ (∃ e : Nat, q.2 = (e : Int) ∧ e ≤ l.length ∧ k + q.1.length + 1 ≤ e ∧ match rdSets t with | some p => q.1 = p.1 ∧ l.drop e = p.2 | none => scOk q.1 = false)) := by
  obtain ⟨hc, hk2, hd2⟩ := dropC hd
  have ht : t.length = l.length - (k + 1) := by rw [← hd2, List.length_drop]
  have hbi : Tr (fun _ : Nat => bidx (mkB l) (k : Int)) 123 := Tr.of fun _ => bidx_mk hc
  refine TQ.eq (fun m => by unfold m_spec_l1Sets; rw [mkB_size, decide_eq_false (by omega), cond_false]) (TQ.ev hbi ?_)
  refine TQ.eq (fun m => by rw [show decide ((123 : Int) ≠ 123) = false from rfl]) (TQ.step (fun m => by rw [m_spec_l1Sets_j1, cond_false]) ?_)
  refine brace_tr l (by omega) _ (123 :: t) k hd (by omega) ?_
  rw [bef_cons, if_neg (by decide), List.length_cons]
  have hba := congrArg List.length (bef_aft 125 t)
  rw [List.length_append] at hba
  refine TQ.step (fun m => by rw [m_spec_l1Sets_j2, mkB_size]) ?_
  cases ha : aft 125 t with
  | nil =>
    rw [ha, List.length_nil] at hba
    refine TQ.eq (fun m => by rw [decide_eq_true (by omega), cond_true]) (TQ.val (.inl ⟨rfl, ?_⟩))
    unfold rdSets; rw [ha]
  | cons y r =>
    obtain rfl := aft_head ha
    have hlt := aft_lt ha
    have hbsv : (l.take (k + ((bef 125 t).length + 1))).drop (k + 1) = bef 125 t := by
      rw [List.drop_take, hd2, show k + ((bef 125 t).length + 1) - (k + 1) = (bef 125 t).length by omega]
      exact take_of (bef_aft 125 t)
    have hbs : Tr (fun _ : Nat => bsub (mkB l) (w64 ((k : Int) + 1)) ((k + ((bef 125 t).length + 1) : Nat) : Int)) (mkB (bef 125 t)) := Tr.of fun _ => by
      rw [w64_in (by omega), succN, bsub_mk l (by omega) (by omega), hbsv]
    refine TQ.eq (fun m => by rw [decide_eq_false (by omega), cond_false]) (TQ.ev hbs (TQ.ev (l15Cut_tr (bef 125 t) (by omega)) ?_))
    have hcl := cutAt_len 44 (bef 125 t)
    refine TQ.mono (spc_nums ((k + ((bef 125 t).length + 1) : Nat) : Int) (by omega) (cutAt 44 (bef 125 t)) (fun w hw => by have := cutAt_mem 44 _ w hw; omega) (by omega) _ 0 [] rfl (Nat.zero_le _) (by omega) rfl) ?_
    have hrs : rdSets t = match numsOf (cutAt 44 (bef 125 t)) with | none => none | some ns => bif scOk ns then some (ns, r) else none := by unfold rdSets; rw [ha] <;> rfl
    rw [List.drop_zero]
    have hde : l.drop (k + ((bef 125 t).length + 1) + 1) = r := by
      have h1 : bef 125 t ++ 125 :: r = t := by rw [← ha]; exact bef_aft 125 t
      rw [show k + ((bef 125 t).length + 1) + 1 = k + 1 + ((bef 125 t).length + 1) by omega, ← List.drop_drop, hd2]
      exact tail_of h1
    rintro q (⟨g1, g2⟩ | ⟨g1, ns', g2, g3⟩)
    · exact .inl ⟨g1, by rw [hrs, g2]⟩
    · right
      rw [List.nil_append] at g2
      refine ⟨k + ((bef 125 t).length + 1) + 1, by rw [g1]; omega, by omega, ?_, ?_⟩
      · rw [g2]; rcases g3 with ⟨g3, g4⟩ | ⟨g3, _⟩ <;> omega
      · rw [hrs]
        rcases g3 with ⟨g3, g4⟩ | ⟨g3, g4⟩
        · have hf : scOk q.1 = false := scOk_len (by rw [g2]; omega)
          cases hn : numsOf (cutAt 44 (bef 125 t)) with
          | none => exact hf
          | some ns =>
            have := numsOf_len hn
            dsimp only
            rw [scOk_len (l := ns) (by omega)]
            exact hf
        · cases hn : numsOf (cutAt 44 (bef 125 t)) with
          | none =>
            rw [hn] at g4
            obtain ⟨x, g5, g6⟩ := g4
            exact scOk_out (by rw [g2]; exact g5) g6
          | some ns =>
            rw [hn] at g4
            dsimp only at g4 ⊢
            cases hsc : scOk ns with
            | true => exact ⟨by rw [g2, g4], hde⟩
            | false => show scOk q.1 = false; rw [g2, g4, hsc]
def SpOk (e : Option (Form × List UInt8)) (l : List UInt8) (k d : Nat) (g : Form) (nx : Int) : Prop :=
  (nx = -1 ∨ ∃ k' : Nat, nx = (k' : Int) ∧ k' ≤ l.length ∧ g.fit ∧ g.w + 1 + 2 * (l.length - k') ≤ 2 * (l.length - k)) ∧
  match e with
  | some p => (g = p.1 ∧ ∃ k' : Nat, nx = (k' : Int) ∧ k' ≤ l.length ∧ l.drop k' = p.2) ∨ (nx = -1 ∧ 400 < p.1.cnt)
  | none => nx = -1 ∨ g.isOk d = false ∨ (∃ k' : Nat, nx = (k' : Int) ∧ (l.drop k').head? = some 123)
def SpOkL (e : Option (List Form × List UInt8)) (l : List UInt8) (acc : List Form) (k d : Nat) (g : Form) (nx : Int) : Prop :=
  (nx = -1 ∨ ∃ k' : Nat, nx = (k' : Int) ∧ k' ≤ l.length ∧ g.fit ∧ g.w + 1 + 2 * (l.length - k') ≤ 2 * (l.length - k) + Form.ws acc) ∧
  match e with
  | some p => (g = fList p.1 ∧ ∃ k' : Nat, nx = (k' : Int) ∧ k' ≤ l.length ∧ l.drop k' = p.2) ∨ (nx = -1 ∧ 400 < 1 + Form.cnts p.1)
  | none => nx = -1 ∨ g.isOk d = false
theorem nmF_125 : ∀ (w : List UInt8) (k : Nat), (125 : UInt8) ∈ w → nmF k w = false
  | [], k, h => by simp at h
  | x :: xs, k, h => by
    rw [nmF]
    rcases List.mem_cons.1 h with rfl | h
    · have : letterB (((125 : UInt8).toNat : Nat) : Int) (decide ((k : Int) = 0)) = false := by
        cases decide ((k : Int) = 0) <;> rfl
      rw [this]; rfl
    · rw [nmF_125 xs (k + 1) h, Bool.and_false]
theorem nmOk_125 {w : List UInt8} (h : (125 : UInt8) ∈ w) : nmOk (mkB w) = false := by
  unfold nmOk
  have h1 : ¬ mkB w = (⟨#[46, 46, 46]⟩ : ByteArray) := fun e => by
    obtain rfl := mkB_inj (b := [46, 46, 46]) e; revert h; decide
  have h2 : ¬ mkB w = (⟨#[95]⟩ : ByteArray) := fun e => by
    obtain rfl := mkB_inj (b := [95]) e; revert h; decide
  rw [decide_eq_false h1, decide_eq_false h2, mkB_list, nmF_125 w 0 h]; rfl
theorem nmOk_dig {c : UInt8} {r : List UInt8} (h : c.toNat = 45 ∨ (48 ≤ c.toNat ∧ c.toNat ≤ 57)) : nmOk (mkB (c :: r)) = false := by
  unfold nmOk
  have h1 : ¬ mkB (c :: r) = (⟨#[46, 46, 46]⟩ : ByteArray) := fun e => by
    have := mkB_inj (b := [46, 46, 46]) e
    cases this; revert h; decide
  have h2 : ¬ mkB (c :: r) = (⟨#[95]⟩ : ByteArray) := fun e => by
    have := mkB_inj (b := [95]) e
    cases this; revert h; decide
  have h3 : letterB (c.toNat : Int) (decide (((0 : Nat) : Int) = 0)) = false := by
    unfold letterB
    rw [decide_eq_false (show ¬ (97 : Int) ≤ c.toNat by omega), decide_eq_false (show ¬ (c.toNat : Int) = 42 by omega), decide_eq_false (show ¬ (c.toNat : Int) = 63 by omega), decide_eq_false (show ¬ (c.toNat : Int) = 61 by omega), decide_eq_false (show ¬ (c.toNat : Int) = 43 by omega), decide_eq_false (show ¬ (c.toNat : Int) = 60 by omega)]
    rfl
  rw [decide_eq_false h1, decide_eq_false h2, mkB_list, nmF, h3]; rfl
theorem numOf_nil : numOf [] = none := by
  cases h : numOf [] with
  | none => rfl
  | some n => exact absurd (numOf_some.1 h).2 (decD_ne n)
theorem nmOk_nil : nmOk (mkB []) = false := rfl
theorem dv_125 : ∀ (w : List UInt8) (acc : Nat), (125 : UInt8) ∈ w → dv acc w = none
  | [], acc, h => by simp at h
  | x :: xs, acc, h => by
    rw [dv]
    rcases List.mem_cons.1 h with rfl | h
    · rfl
    · rw [dv_125 xs _ h]; cases decide (48 ≤ x.toNat) && decide (x.toNat ≤ 57) <;> rfl
theorem numOf_125 {w : List UInt8} (h : (125 : UInt8) ∈ w) : numOf w = none := by
  unfold numOf; rw [dv_125 w 0 h]
theorem spc_atom (l : List UInt8) (hl : l.length ≤ 2 ^ 20) (k d : Nat) (hd0 : d ≠ 0) (c : UInt8) (r : List UInt8) (hd : l.drop k = c :: r) :
    TQ (fun m => m_spec_l1Atom m (mkB l) (k : Int)) (fun q => SpOk (rdAtom (c :: r)) l k d q.1 q.2) := by
  obtain ⟨hc, hk2, hd2⟩ := dropC hd
  have hlen : (c :: r).length = l.length - k := by rw [← hd, List.length_drop]
  have hww := congrArg List.length (wrd2_rst2 (c :: r))
  rw [List.length_append] at hww
  have hdr : l.drop (k + (wrd2 (c :: r)).length) = rst2 (c :: r) := by rw [← List.drop_drop, hd]; exact drop_of (wrd2_rst2 (c :: r))
  have hbsv : (l.take (k + (wrd2 (c :: r)).length)).drop k = wrd2 (c :: r) := by
    rw [List.drop_take, hd, Nat.add_sub_cancel_left]; exact take_of (wrd2_rst2 (c :: r))
  have hbs : Tr (fun _ : Nat => bsub (mkB l) (k : Int) ((k + (wrd2 (c :: r)).length : Nat) : Int)) (mkB (wrd2 (c :: r))) := Tr.of fun _ => by
    rw [bsub_mk l (by omega) (by omega), hbsv]
  obtain ⟨v, b, h1, h2, h3⟩ := specNum_tr (wrd2 (c :: r)) (by omega)
  refine TQ.eq (fun m => by unfold m_spec_l1Atom; rfl) (TQ.ev (word2_tr l (by omega) _ k hd (by omega)) (TQ.ev hbs (TQ.ev h1 ?_)))
  dsimp only
  cases b with
  | true =>
    obtain ⟨x, y, e1, e2⟩ := h2 rfl
    have hw1 : 1 ≤ (wrd2 (c :: r)).length := by rw [e1]; simp
    refine TQ.eq (fun m => by rw [cond_true]) (TQ.val (v := (fNum v, ((k + (wrd2 (c :: r)).length : Nat) : Int))) ?_)
    refine ⟨.inr ⟨_, rfl, by omega, by simp [Form.fit, Form.fits]; decide, by show 1 + 0 + 0 + 1 + 2 * (l.length - (k + (wrd2 (c :: r)).length)) ≤ 2 * (l.length - k); omega⟩, ?_⟩
    rcases wrd2_wrd (c :: r) with ⟨g1, g2⟩ | ⟨g1, g2, g3⟩
    · have : rdAtom (c :: r) = none := by unfold rdAtom; rw [decide_eq_true g1]; rfl
      rw [this]
      rw [numOf_125 g2] at h3
      refine .inr (.inl ?_)
      rw [isOk_num hd0]
      rcases h3 rfl with h | h
      · rw [decide_eq_false (by omega)]; rfl
      · rw [decide_eq_false (show ¬ v ≤ 999 by omega), Bool.and_false]
    · have hat : rdAtom (c :: r) = match numOf (wrd (c :: r)) with
          | some n => bif decide ((rst (c :: r)).head? = some 123) then none else some (fNum n, rst (c :: r))
          | none => bif nmOk (mkB (wrd (c :: r))) then
              (bif decide ((rst (c :: r)).head? = some 123) then
                (match rdSets (rst (c :: r)).tail with
                | none => none
                | some p => some (fName (wrd (c :: r)) p.1, p.2))
              else some (fName (wrd (c :: r)) [], rst (c :: r)))
            else none := by unfold rdAtom; rw [decide_eq_false g1]; rfl
      rw [hat, ← g2, ← g3]
      cases hn : numOf (wrd2 (c :: r)) with
      | some n =>
        rw [hn] at h3
        obtain ⟨_, rfl⟩ := h3
        dsimp only
        by_cases h123 : (rst2 (c :: r)).head? = some 123
        · rw [decide_eq_true h123, cond_true]
          exact .inr (.inr ⟨_, rfl, by rw [hdr]; exact h123⟩)
        · rw [decide_eq_false h123, cond_false]
          exact .inl ⟨rfl, _, rfl, by omega, hdr⟩
      | none =>
        rw [hn] at h3
        dsimp only
        rw [e1, nmOk_dig e2]
        refine .inr (.inl ?_)
        rw [isOk_num hd0]
        rcases h3 rfl with h | h
        · rw [decide_eq_false (by omega)]; rfl
        · rw [decide_eq_false (show ¬ v ≤ 999 by omega), Bool.and_false]
  | false =>
    have hno : numOf (wrd2 (c :: r)) = none := by
      cases hn : numOf (wrd2 (c :: r)) with
      | none => rfl
      | some n => rw [hn] at h3; cases h3.1
    refine TQ.eq (fun m => by rw [cond_false, mkB_empty]) ?_
    by_cases hem : wrd2 (c :: r) = []
    · refine TQ.eq (fun m => by rw [decide_eq_true hem, cond_true]) (TQ.val (v := (F0, (-1 : Int))) ⟨.inl rfl, ?_⟩)
      have : rdAtom (c :: r) = none := by
        rcases wrd2_wrd (c :: r) with ⟨g1, g2⟩ | ⟨g1, g2, g3⟩
        · unfold rdAtom; rw [decide_eq_true g1]; rfl
        · unfold rdAtom; rw [decide_eq_false g1, cond_false, ← g2, hno, hem]; rfl
      rw [this]; exact .inl rfl
    · have hw1 : 1 ≤ (wrd2 (c :: r)).length := by
        cases hx : wrd2 (c :: r) with
        | nil => exact absurd hx hem
        | cons _ _ => simp
      refine TQ.eq (fun m => by rw [decide_eq_false hem, cond_false]) ?_
      -- the name alone, or the name with scopes
      by_cases h123 : (rst2 (c :: r)).head? = some 123
      · obtain ⟨t, ht⟩ : ∃ t, rst2 (c :: r) = 123 :: t := by
          cases hx : rst2 (c :: r) with
          | nil => rw [hx] at h123; cases h123
          | cons y t => rw [hx] at h123; simp at h123; subst h123; exact ⟨t, rfl⟩
        refine TQ.bind (spc_sets l hl _ t (by rw [hdr, ht])) ?_
        rintro ⟨ns, nx⟩ hq
        refine TQ.val (v := (fName (wrd2 (c :: r)) ns, nx)) ?_
        dsimp only at hq
        constructor
        · rcases hq with ⟨rfl, _⟩ | ⟨e, rfl, q2, q3, _⟩
          · exact .inl rfl
          · right
            refine ⟨e, rfl, q2, ?_, ?_⟩
            · simp only [Form.fit, Form.fits, and_true, mkB_size, List.length_nil]; omega
            · show 1 + ns.length + 0 + 1 + 2 * (l.length - e) ≤ 2 * (l.length - k)
              omega
        · rcases wrd2_wrd (c :: r) with ⟨g1, g2⟩ | ⟨g1, g2, g3⟩
          · have : rdAtom (c :: r) = none := by unfold rdAtom; rw [decide_eq_true g1]; rfl
            rw [this]
            exact .inr (.inl (by rw [isOk_nm hd0, nmOk_125 g2]; rfl))
          · have hat : rdAtom (c :: r) = bif nmOk (mkB (wrd2 (c :: r))) then (match rdSets t with
                | none => none
                | some p => some (fName (wrd2 (c :: r)) p.1, p.2)) else none := by
              unfold rdAtom
              rw [decide_eq_false g1, cond_false, ← g2, hno, ← g3, ht]
              rfl
            rw [hat]
            cases hnm : nmOk (mkB (wrd2 (c :: r))) with
            | false =>
              rw [cond_false]
              exact .inr (.inl (by rw [isOk_nm hd0, hnm]; rfl))
            | true =>
              rw [cond_true]
              rcases hq with ⟨rfl, q2⟩ | ⟨e, rfl, q2, q3, q4⟩
              · rw [q2]; exact .inl rfl
              · cases hrs : rdSets t with
                | none =>
                  rw [hrs] at q4
                  exact .inr (.inl (by rw [isOk_nm hd0, q4, Bool.and_false]))
                | some p =>
                  rw [hrs] at q4
                  exact .inl ⟨by rw [q4.1], e, rfl, q2, q4.2⟩
      · have hsets : Tr (fun m => m_spec_l1Sets m (mkB l) ((k + (wrd2 (c :: r)).length : Nat) : Int)) (([] : List Int), ((k + (wrd2 (c :: r)).length : Nat) : Int)) := by
          cases hx : rst2 (c :: r) with
          | nil =>
            rw [hx, List.length_nil] at hww
            refine Tr.eq (fun m => by unfold m_spec_l1Sets; rw [mkB_size, decide_eq_true (by omega), cond_true]) (Tr.step (fun m => by rw [m_spec_l1Sets_j1, cond_true]) Tr.val)
          | cons y t =>
            rw [hx] at hdr h123
            obtain ⟨hy, hy2, _⟩ := dropC hdr
            have hyb : Tr (fun _ : Nat => bidx (mkB l) ((k + (wrd2 (c :: r)).length : Nat) : Int)) (y.toNat : Int) := Tr.of fun _ => bidx_mk hy
            have hy3 : (y.toNat : Int) ≠ 123 := byte_ne (k := 123) (by decide) (by simpa using h123)
            exact Tr.eq (fun m => by unfold m_spec_l1Sets; rw [mkB_size, decide_eq_false (by omega), cond_false]) (Tr.bind hyb (Tr.eq (fun m => by rw [decide_eq_true hy3]) (Tr.step (fun m => by rw [m_spec_l1Sets_j1, cond_true]) Tr.val)))
        refine TQ.ev hsets (TQ.val (v := (fName (wrd2 (c :: r)) [], ((k + (wrd2 (c :: r)).length : Nat) : Int))) ?_)
        refine ⟨.inr ⟨_, rfl, by omega, ?_, ?_⟩, ?_⟩
        · simp only [Form.fit, Form.fits, and_true, mkB_size, List.length_nil]; omega
        · show 1 + 0 + 0 + 1 + 2 * (l.length - (k + (wrd2 (c :: r)).length)) ≤ 2 * (l.length - k)
          omega
        · rcases wrd2_wrd (c :: r) with ⟨g1, g2⟩ | ⟨g1, g2, g3⟩
          · have : rdAtom (c :: r) = none := by unfold rdAtom; rw [decide_eq_true g1]; rfl
            rw [this]
            exact .inr (.inl (by rw [isOk_nm hd0, nmOk_125 g2]; rfl))
          · have hat : rdAtom (c :: r) = bif nmOk (mkB (wrd2 (c :: r))) then some (fName (wrd2 (c :: r)) [], rst2 (c :: r)) else none := by
              unfold rdAtom
              rw [decide_eq_false g1, cond_false, ← g2, hno, ← g3, decide_eq_false h123]
              rfl
            rw [hat]
            cases hnm : nmOk (mkB (wrd2 (c :: r))) with
            | false =>
              rw [cond_false]
              exact .inr (.inl (by rw [isOk_nm hd0, hnm]; rfl))
            | true => exact .inl ⟨rfl, _, rfl, by omega, hdr⟩
theorem pcnts_app (a b : List Form) : Form.cnts (a ++ b) = Form.cnts a + Form.cnts b := by
  induction a with
  | nil => simp [Form.cnts]
  | cons x a ih => rw [List.cons_append, Form.cnts, Form.cnts, ih]; omega
theorem pcnt_pos (f : Form) : 1 ≤ f.cnt := by rw [Form.cnt_eq]; omega
theorem pcnts_len : ∀ l : List Form, l.length ≤ Form.cnts l
  | [] => Nat.le_refl _
  | x :: l => by have := pcnts_len l; have := pcnt_pos x; rw [Form.cnts, List.length_cons]; omega
theorem rl_app : ∀ (f d : Nat) (s : List UInt8) (acc : List Form) (p : List Form × List UInt8), rl f d s acc = some p → ∃ t, p.1 = acc ++ t ∧ ((skp s).head? ≠ some 41 → t ≠ [])
  | 0, d, s, acc, p, h => by rw [rl] at h; cases h
  | f + 1, d, s, acc, p, h => by
    rw [rl] at h
    cases hs : skp s with
    | nil => rw [hs] at h; cases h
    | cons c r =>
      rw [hs] at h
      dsimp only at h
      by_cases hc : c = 41
      · rw [decide_eq_true hc, cond_true] at h; cases h
        exact ⟨[], by simp, fun k => absurd (by rw [hc]; rfl) k⟩
      · rw [decide_eq_false hc, cond_false] at h
        cases hr : rd f (d - 1) (c :: r) with
        | none => rw [hr] at h; cases h
        | some q =>
          rw [hr] at h
          obtain ⟨t, h1, _⟩ := rl_app f d q.2 (acc ++ [q.1]) p h
          exact ⟨q.1 :: t, by rw [h1, List.append_assoc]; rfl, fun _ => by simp⟩
theorem spc_read (l : List UInt8) (hl : l.length ≤ 2 ^ 20) : ∀ f : Nat,
    (∀ (d k : Nat), d ≤ 40 → k ≤ l.length → 2 * (l.length - k) ≤ f → TQ (fun m => m_spec_l1Read m (mkB l) (k : Int) (d : Int)) (fun q => SpOk (rd f d (l.drop k)) l k d q.1 q.2)) ∧
    (∀ (d k : Nat) (acc : List Form) (e : Option (List Form × List UInt8)), d ≤ 40 → d ≠ 0 → k ≤ l.length → skp (l.drop k) = l.drop k → 2 * (l.length - k) + 1 ≤ f → Form.fits acc → Form.ws acc + 2 * (l.length - k) ≤ 2 ^ 22 → acc.length ≤ 400 →
      ((e = none ∧ (alls (fun x => x.isOk (d - 1)) acc = false ∨ (l.drop k).head? = some 123)) ∨ (e = rl f d (l.drop k) acc ∧ alls (fun x => x.isOk (d - 1)) acc = true)) →
      TQ (fun m => m_spec_l1Read_l3 m (mkB l) (d : Int) (k : Int) acc) (fun q => SpOkL e l acc k d q.1 q.2)) := by
  intro f
  induction f with
  | zero =>
    refine ⟨fun d k hd hk hf => ?_, fun d k acc e hd hd0 hk hsk hf => by omega⟩
    have hk' : k = l.length := by omega
    obtain ⟨k', h1, h2, h3, h4⟩ := skip_tr l (by omega) _ k rfl hk
    refine TQ.step (fun m => by rw [m_spec_l1Read]) (TQ.ev h1 (TQ.eq (fun m => by rw [mkB_size, decide_eq_true (by omega), cond_true]) (TQ.step (fun m => by rw [m_spec_l1Read_j1, cond_true]) (TQ.val (v := (F0, (-1 : Int))) ⟨.inl rfl, ?_⟩))))
    rw [rd]; exact .inl rfl
  | succ f ih =>
    refine ⟨fun d k hd hk hf => ?_, fun d k acc e hd hd0 hk hsk hf hfit hws hacc he => ?_⟩
    · obtain ⟨k', h1, h2, h3, h4⟩ := skip_tr l (by omega) _ k rfl hk
      refine TQ.step (fun m => by rw [m_spec_l1Read]) (TQ.ev h1 (TQ.eq (fun m => by rw [mkB_size]) ?_))
      rw [rd, ← h4]
      cases hs : l.drop k' with
      | nil =>
        have : l.length ≤ k' := List.drop_eq_nil_iff.1 hs
        exact TQ.eq (fun m => by rw [decide_eq_true (by omega), cond_true]) (TQ.step (fun m => by rw [m_spec_l1Read_j1, cond_true]) (TQ.val (v := (F0, (-1 : Int))) ⟨.inl rfl, .inl rfl⟩))
      | cons c r =>
        obtain ⟨hc, hk2, hd2⟩ := dropC hs
        refine TQ.eq (fun m => by rw [decide_eq_false (by omega), cond_false]) ?_
        dsimp only
        by_cases hd0 : d = 0
        · subst hd0
          rw [decide_eq_true rfl, cond_true]
          exact TQ.eq (fun m => by rw [show decide (((0 : Nat) : Int) = 0) = true from rfl]) (TQ.step (fun m => by rw [m_spec_l1Read_j1, cond_true]) (TQ.val (v := (F0, (-1 : Int))) ⟨.inl rfl, .inl rfl⟩))
        · rw [decide_eq_false hd0, cond_false]
          have hbi : Tr (fun _ : Nat => bidx (mkB l) (k' : Int)) (c.toNat : Int) := Tr.of fun _ => bidx_mk hc
          refine TQ.eq (fun m => by rw [decide_eq_false (by omega)]) (TQ.step (fun m => by rw [m_spec_l1Read_j1, cond_false]) (TQ.ev hbi ?_))
          have e40 := dec_byte' c 40 (by decide)
          by_cases h40 : c = 40
          · rw [decide_eq_true h40, cond_true]
            obtain ⟨k2, g1, g2, g3, g4⟩ := skip_tr l (by omega) r (k' + 1) hd2 (by omega)
            have g1 : Tr (fun m => m_spec_l1Skip m (mkB l) (w64 ((k' : Int) + 1))) (k2 : Int) := by rw [w64_in (by omega), succN]; exact g1
            refine TQ.eq (fun m => by rw [show (40 : Int) = ((40 : Nat) : Int) from rfl, e40, decide_eq_false (by simpa using h40), cond_false]) (TQ.ev g1 ?_)
            have hrl : rl f d (l.drop k2) [] = rl f d r [] := by
              cases f with
              | zero => rw [rl, rl]
              | succ f => rw [rl, rl, g4, skp_idem]
            refine TQ.mono (ih.2 d k2 [] (rl f d r []) hd hd0 g3 (by rw [g4, skp_idem]) (by omega) Form.fits_nil (by rw [Form.ws]; omega) (by simp) (.inr ⟨hrl.symm, rfl⟩)) ?_
            rintro ⟨g, nx⟩ ⟨q1, q2⟩
            constructor
            · rcases q1 with q1 | ⟨k3, q1, q3, q4, q5⟩
              · exact .inl q1
              · rw [Form.ws] at q5
                exact .inr ⟨k3, q1, q3, q4, by omega⟩
            · cases hr : rl f d r [] with
              | none =>
                rw [hr] at q2
                rcases q2 with q2 | q2
                · exact .inl q2
                · exact .inr (.inl q2)
              | some p =>
                rw [hr] at q2
                rcases q2 with q2 | ⟨q2, q3⟩
                · exact .inl q2
                · exact .inr ⟨q2, by rw [Form.cnt_eq]; exact q3⟩
          · rw [decide_eq_false h40, cond_false]
            refine TQ.eq (fun m => by rw [show (40 : Int) = ((40 : Nat) : Int) from rfl, e40, decide_eq_true (by exact h40), cond_true]) (TQ.bind (spc_atom l hl k' d hd0 c r hs) ?_)
            rintro ⟨g, nx⟩ ⟨q1, q2⟩
            refine TQ.val (v := (g, nx)) ⟨?_, q2⟩
            rcases q1 with q1 | ⟨k3, q1, q3, q4, q5⟩
            · exact .inl q1
            · exact .inr ⟨k3, q1, q3, q4, by dsimp only at q5 ⊢; omega⟩
    · have hrl : rl (f + 1) d (l.drop k) acc = match l.drop k with
        | [] => none
        | c :: r => bif decide (c = 41) then some (acc, r) else
          match rd f (d - 1) (c :: r) with
          | none => none
          | some p => rl f d p.2 (acc ++ [p.1]) := by rw [rl, hsk] <;> rfl
      have hal := Form.ws_len acc
      have hbad : e = none → TQ (fun m => some ((Form.mk 3 (⟨#[]⟩ : ByteArray) 0 ([] : List Int) acc), (-1 : Int))) (fun q => SpOkL e l acc k d q.1 q.2) := fun h => TQ.val ⟨.inl rfl, by rw [h]; exact .inl rfl⟩
      rw [hrl] at he
      cases hs : l.drop k with
      | nil =>
        have hk' : l.length ≤ k := List.drop_eq_nil_iff.1 hs
        have hen : e = none := by
          rw [hs] at he
          rcases he with h | h
          · exact h.1
          · exact h.1
        refine TQ.step (fun m => by rw [m_spec_l1Read_l3, mkB_size, decide_eq_false (by omega), cond_false]) (TQ.step (fun m => by rw [m_spec_l1Read_j4, cond_false]) (TQ.step (fun m => by rw [m_spec_l1Read_j2, mkB_size, decide_eq_true (by omega), cond_true]) (TQ.step (fun m => by rw [m_spec_l1Read_j5, cond_true]) (hbad hen))))
      | cons c r =>
        obtain ⟨hc, hk2, hd2⟩ := dropC hs
        rw [hs] at he
        dsimp only at he
        have hlen : (c :: r).length = l.length - k := by rw [← hs, List.length_drop]
        have hbi : Tr (fun _ : Nat => bidx (mkB l) (k : Int)) (c.toNat : Int) := Tr.of fun _ => bidx_mk hc
        have e41 := dec_byte' c 41 (by decide)
        refine TQ.step (fun m => by rw [m_spec_l1Read_l3, mkB_size, decide_eq_true (by omega), cond_true]) (TQ.ev hbi (TQ.eq (fun m => by rw [show (41 : Int) = ((41 : Nat) : Int) from rfl, e41]) ?_))
        by_cases h41 : c = 41
        · subst h41
          refine TQ.eq (fun m => by rw [show decide ((41 : UInt8) ≠ UInt8.ofNat 41) = false from rfl, cond_false]) (TQ.step (fun m => by rw [m_spec_l1Read_j4, cond_false]) (TQ.step (fun m => by rw [m_spec_l1Read_j2, mkB_size, decide_eq_false (by omega), cond_false]) (TQ.ev hbi ?_)))
          refine TQ.eq (fun m => by rw [show decide ((((41 : UInt8).toNat : Nat) : Int) ≠ 41) = false from rfl]) (TQ.step (fun m => by rw [m_spec_l1Read_j5, cond_false, w64_in (by omega), succN]) ?_)
          refine TQ.val (v := (fList acc, ((k + 1 : Nat) : Int))) ⟨.inr ⟨k + 1, rfl, by omega, ?_, ?_⟩, ?_⟩
          · show (fList acc).fit
            rw [Form.fit]
            exact ⟨by decide, by decide, by omega, hfit⟩
          · show 1 + 0 + Form.ws acc + 1 + 2 * (l.length - (k + 1)) ≤ 2 * (l.length - k) + Form.ws acc
            omega
          · rw [decide_eq_true rfl, cond_true] at he
            rcases he with ⟨rfl, h | h⟩ | ⟨rfl, _⟩
            · exact .inr (by rw [isOk_list hd0]; exact h)
            · exact absurd (Option.some.inj h) (by decide)
            · exact .inl ⟨rfl, k + 1, rfl, by omega, hd2⟩
        · refine TQ.eq (fun m => by rw [decide_eq_true (show c ≠ UInt8.ofNat 41 from h41), cond_true]) ?_
          rw [decide_eq_false h41, cond_false] at he
          by_cases h400 : acc.length < 400
          · have hI := ih.1 (d - 1) k (by omega) hk (by omega)
            rw [hs] at hI
            rw [show ((d - 1 : Nat) : Int) = w64 ((d : Int) - 1) by rw [w64_in (by omega)]; omega] at hI
            refine TQ.step (fun m => by rw [m_spec_l1Read_j4, decide_eq_true (by omega), cond_true]) (TQ.bind hI ?_)
            rintro ⟨g, nx⟩ ⟨q1, q2⟩
            dsimp only at q1 q2 ⊢
            rcases q1 with rfl | ⟨k2, rfl, q3, q4, q5⟩
            · -- nothing more could be read
              refine TQ.eq (fun m => by rw [show decide ((-1 : Int) < 0) = true from rfl, cond_true]) ?_
              refine TQ.val (v := (fList acc, (-1 : Int))) ⟨.inl rfl, ?_⟩
              rcases he with ⟨rfl, _⟩ | ⟨h, h'⟩
              · exact .inl rfl
              · cases hrd : rd f (d - 1) (c :: r) with
                | none => rw [hrd] at h; rw [h]; exact .inl rfl
                | some p =>
                  rw [hrd] at h q2
                  rcases q2 with ⟨_, k3, q6, _⟩ | ⟨_, q6⟩
                  · omega
                  · cases he2 : e with
                    | none => exact .inl rfl
                    | some p2 =>
                      rw [he2] at h
                      obtain ⟨t, h1, _⟩ := rl_app f d p.2 (acc ++ [p.1]) p2 h.symm
                      refine .inr ⟨rfl, ?_⟩
                      rw [h1, pcnts_app, pcnts_app, Form.cnts]
                      omega
            · have gp := w_pos' g
              obtain ⟨k4, g1, g2, g3, g4⟩ := skip_tr l (by omega) _ k2 rfl q3
              refine TQ.eq (fun m => by rw [decide_eq_false (show ¬ (k2 : Int) < 0 by omega), cond_false]) ?_
              refine TQ.chk (decide_eq_true (by simp only [List.length_singleton]; omega)) (TQ.ev g1 ?_)
              have hl : ∀ e', e' = e → ((e' = none ∧ (alls (fun x => x.isOk (d - 1)) (acc ++ [g]) = false ∨ (l.drop k4).head? = some 123)) ∨ (e' = rl f d (l.drop k4) (acc ++ [g]) ∧ alls (fun x => x.isOk (d - 1)) (acc ++ [g]) = true)) := by
                rintro e' rfl
                have h123 : c = 123 → rd f (d - 1) (c :: r) = none := fun h => by
                  subst h
                  cases f with
                  | zero => rw [rd]
                  | succ f =>
                    rw [rd, skp_cons, if_neg (by decide)]
                    dsimp only
                    cases decide (d - 1 = 0) with
                    | true => rfl
                    | false =>
                      show rdAtom (123 :: r) = none
                      have e1 : rst (123 :: r) = 123 :: r := by rw [rst_cons]; rfl
                      have e2 : wrd (123 :: r) = [] := by rw [wrd_cons]; rfl
                      unfold rdAtom
                      rw [e1, e2, numOf_nil]
                      rfl
                rcases he with ⟨h, h' | h'⟩ | ⟨h, h'⟩
                · exact .inl ⟨h, .inl (by rw [alls_app, h']; rfl)⟩
                · have h5 : c = 123 := by simpa using h'
                  rw [h123 h5] at q2
                  rcases q2 with q2 | q2 | ⟨k5, q6, q7⟩
                  · omega
                  · exact .inl ⟨h, .inl (by rw [alls_app, alls, q2]; simp)⟩
                  · obtain rfl : k2 = k5 := by omega
                    exact .inl ⟨h, .inr (by rw [g4, skp_id (by rw [q7]; decide)]; exact q7)⟩
                · cases hrd : rd f (d - 1) (c :: r) with
                  | none =>
                    rw [hrd] at h q2
                    rcases q2 with q2 | q2 | ⟨k5, q6, q7⟩
                    · omega
                    · exact .inl ⟨h, .inl (by rw [alls_app, alls, q2]; simp)⟩
                    · obtain rfl : k2 = k5 := by omega
                      exact .inl ⟨h, .inr (by rw [g4, skp_id (by rw [q7]; decide)]; exact q7)⟩
                  | some p =>
                    rw [hrd] at h q2
                    rcases q2 with ⟨rfl, k5, q6, q8, q7⟩ | ⟨q6, _⟩
                    · obtain rfl : k2 = k5 := by omega
                      refine .inr ⟨?_, by rw [alls_app, h', alls, (rd_ok f).1 _ _ _ hrd]; rfl⟩
                      rw [h]
                      dsimp only
                      rw [g4, ← q7]
                      cases f with
                      | zero => rw [rl, rl]
                      | succ f => rw [rl, rl, skp_idem]
                    · omega
              have hwa : Form.ws (acc ++ [g]) = Form.ws acc + (1 + g.w) := by rw [Form.ws_append]; rfl
              refine TQ.mono (ih.2 d k4 (acc ++ [g]) e hd hd0 g3 (by rw [g4, skp_idem]) (by omega) (Form.fits_app hfit (Form.fits_one q4)) (by omega) (by rw [List.length_append, List.length_singleton]; omega) (hl e rfl)) ?_
              rintro ⟨g', nx'⟩ ⟨r1, r2⟩
              refine ⟨?_, r2⟩
              rcases r1 with r1 | ⟨k5, r1, r3, r4, r5⟩
              · exact .inl r1
              · exact .inr ⟨k5, r1, r3, r4, by dsimp only at r5 ⊢; omega⟩
          · -- four hundred are too many
            have hc41 : (c.toNat : Int) ≠ 41 := byte_ne (k := 41) (by decide) h41
            refine TQ.step (fun m => by rw [m_spec_l1Read_j4, decide_eq_false (by omega), cond_false]) (TQ.step (fun m => by rw [m_spec_l1Read_j2, mkB_size, decide_eq_false (by omega), cond_false]) (TQ.ev hbi ?_))
            refine TQ.eq (fun m => by rw [decide_eq_true hc41]) (TQ.step (fun m => by rw [m_spec_l1Read_j5, cond_true]) ?_)
            refine TQ.val (v := (fList acc, (-1 : Int))) ⟨.inl rfl, ?_⟩
            cases he2 : e with
            | none => exact .inl rfl
            | some p2 =>
              refine .inr ⟨rfl, ?_⟩
              rw [he2] at he
              rcases he with ⟨h, _⟩ | ⟨h, _⟩
              · cases h
              · cases hrd : rd f (d - 1) (c :: r) with
                | none => rw [hrd] at h; cases h
                | some p =>
                  rw [hrd] at h
                  obtain ⟨t, h1, _⟩ := rl_app f d p.2 (acc ++ [p.1]) p2 h.symm
                  have h2 := pcnts_len acc
                  have h3 := pcnt_pos p.1
                  rw [h1, pcnts_app, pcnts_app, Form.cnts]
                  omega
end Go.Abs
end
