/- A part of the proof: what the functions that the law calls answer, as pure values. -/
import Derived.Test.YtidbdmpbcpanjaaGreatDoorK064a2fe3a5b4
import Derived.Test.YtidbdmpbcpanjaaGreatDoorK10a31c29eeb6
import Derived.Test.YtidbdmpbcpanjaaGreatDoorK346e18566c9b
import Derived.Test.YtidbdmpbcpanjaaGreatDoorK48591414590f
set_option linter.unusedSimpArgs false
set_option linter.unusedVariables false
section
set_option linter.unusedVariables false
set_option linter.unusedSimpArgs false
set_option maxHeartbeats 4000000
namespace Go.Abs
def pf (l : List UInt8) : Form × Bool := match rd (2 * l.length + 2) 40 l with
  | some p => bif decide (skp p.2 = []) && decide (p.1.cnt ≤ 400) then (p.1, true) else (F0, false)
  | none => (F0, false)
theorem implParse_tr (l : List UInt8) (hl : l.length ≤ 2 ^ 20) : Tr (fun m => m_impl_ParseForm m (mkB l)) (pf l) := by
  refine TQ.tr (TQ.eq (fun m => by unfold m_impl_ParseForm; rfl) (TQ.bind ((imp_read (2 * l.length + 2)).1 40 l (by omega) hl (by omega)) ?_))
  rintro ⟨f, free, s, bad⟩ ⟨r, h1, h2, h3, h4⟩
  dsimp only at h1
  subst h1
  refine TQ.ev (blanks_tr r bad) ?_
  dsimp only
  unfold pf
  cases bad with
  | true =>
    refine TQ.eq (fun m => by rw [cond_true]) (TQ.val ?_)
    cases he : rd (2 * l.length + 2) 40 l with
    | none => rfl
    | some p => rw [he] at h4; cases h4.2.1
  | false =>
    obtain ⟨k1, k2⟩ := h3 rfl
    have hmk : decide (mkB (skp r) ≠ (⟨#[]⟩ : ByteArray)) = !decide (skp r = []) := by rw [← mkB_empty]; cases h : decide (mkB (skp r) = (⟨#[]⟩ : ByteArray)) <;> simp_all
    refine TQ.eq (fun m => by rw [cond_false, hmk]) ?_
    have hv := implFormValid_tr f k1
    cases he : rd (2 * l.length + 2) 40 l with
    | some p =>
      rw [he] at h4
      obtain ⟨rfl, _, rfl, _⟩ := h4
      have hok := (rd_ok _).1 _ _ _ he
      dsimp only
      by_cases hs : skp p.2 = []
      · rw [decide_eq_true hs, Bool.true_and]
        refine TQ.eq (fun m => by rw [Bool.not_true, cond_false]) (TQ.ev hv ?_)
        unfold Form.valid
        rw [hok, Bool.true_and]
        cases decide (p.1.cnt ≤ 400) with
        | true => exact TQ.eq (fun m => by rw [Bool.not_true, cond_false]; rfl) (TQ.val rfl)
        | false => exact TQ.eq (fun m => by rw [Bool.not_false, cond_true]; rfl) (TQ.val rfl)
      · rw [decide_eq_false hs, Bool.false_and]
        exact TQ.eq (fun m => by rw [Bool.not_false, cond_true]; rfl) (TQ.val rfl)
    | none =>
      rw [he] at h4
      dsimp only
      by_cases hs : skp r = []
      · rw [decide_eq_true hs]
        refine TQ.eq (fun m => by rw [Bool.not_true, cond_false]) (TQ.ev hv ?_)
        have : f.valid = false := by
          unfold Form.valid
          rcases h4 with h4 | h4 | ⟨_, h4⟩
          · cases h4
          · rw [h4]; rfl
          · exfalso
            rw [skp_id (by rcases h4 with h4 | h4 <;> rw [h4] <;> decide)] at hs
            subst hs
            rcases h4 with h4 | h4 <;> cases h4
        rw [this]
        exact TQ.eq (fun m => by rw [Bool.not_false, cond_true]) (TQ.val rfl)
      · rw [decide_eq_false hs]
        exact TQ.eq (fun m => by rw [Bool.not_false, cond_true]) (TQ.val rfl)
theorem specParse_tr (l : List UInt8) (hl : l.length ≤ 2 ^ 20) : Tr (fun m => m_spec_ParseForm m (mkB l)) (pf l) := by
  have hr := (spc_read l hl (2 * l.length + 2)).1 40 0 (by omega) (Nat.zero_le _) (by omega)
  rw [List.drop_zero] at hr
  refine TQ.tr (TQ.eq (fun m => by unfold m_spec_ParseForm; rfl) (TQ.bind hr ?_))
  rintro ⟨f, nx⟩ ⟨h1, h2⟩
  unfold pf
  dsimp only at h1 ⊢
  rcases h1 with rfl | ⟨k, rfl, k1, k2, k3⟩
  · refine TQ.eq (fun m => by rw [show decide ((-1 : Int) < 0) = true from rfl, cond_true]) (TQ.val ?_)
    cases he : rd (2 * l.length + 2) 40 l with
    | none => rfl
    | some p =>
      rw [he] at h2
      rcases h2 with ⟨_, k', h3, _⟩ | ⟨_, h3⟩
      · omega
      · dsimp only
        rw [decide_eq_false (show ¬ p.1.cnt ≤ 400 by omega), Bool.and_false]; rfl
  · obtain ⟨k', g1, g2, g3, g4⟩ := skip_tr l (by omega) _ k rfl k1
    have hv := specFormValid_tr f k2 (by omega)
    have hk' : decide ((k' : Int) ≠ (l.length : Int)) = !decide (skp (l.drop k) = []) := by
      rw [← g4]
      by_cases h : k' = l.length
      · rw [decide_eq_false (by omega), decide_eq_true (by rw [h, List.drop_length])]; rfl
      · rw [decide_eq_true (by omega), decide_eq_false (fun e => by have := List.drop_eq_nil_iff.1 e; omega)]; rfl
    refine TQ.eq (fun m => by rw [decide_eq_false (show ¬ (k : Int) < 0 by omega), cond_false]) (TQ.ev g1 (TQ.eq (fun m => by rw [mkB_size, hk']) ?_))
    cases he : rd (2 * l.length + 2) 40 l with
    | some p =>
      rw [he] at h2
      have hok := (rd_ok _).1 _ _ _ he
      dsimp only
      rcases h2 with ⟨rfl, k2', h3, _, h5⟩ | ⟨h3, _⟩
      · obtain rfl : k = k2' := by omega
        rw [h5]
        by_cases hs : skp p.2 = []
        · rw [decide_eq_true hs, Bool.true_and]
          refine TQ.eq (fun m => by rw [Bool.not_true, cond_false]) (TQ.ev hv ?_)
          unfold Form.valid
          rw [hok, Bool.true_and]
          cases decide (p.1.cnt ≤ 400) with
          | true => exact TQ.eq (fun m => by rw [Bool.not_true, cond_false]; rfl) (TQ.val rfl)
          | false => exact TQ.eq (fun m => by rw [Bool.not_false, cond_true]; rfl) (TQ.val rfl)
        · rw [decide_eq_false hs, Bool.false_and]
          exact TQ.eq (fun m => by rw [Bool.not_false, cond_true]; rfl) (TQ.val rfl)
      · omega
    | none =>
      rw [he] at h2
      dsimp only
      by_cases hs : skp (l.drop k) = []
      · rw [decide_eq_true hs]
        refine TQ.eq (fun m => by rw [Bool.not_true, cond_false]) (TQ.ev hv ?_)
        have : f.valid = false := by
          unfold Form.valid
          rcases h2 with h2 | h2 | ⟨k3', h3, h4⟩
          · omega
          · rw [h2]; rfl
          · obtain rfl : k = k3' := by omega
            exfalso
            rw [skp_id (by rw [h4]; decide)] at hs
            rw [hs] at h4; cases h4
        rw [this]
        exact TQ.eq (fun m => by rw [Bool.not_false, cond_true]) (TQ.val rfl)
      · rw [decide_eq_false hs]
        exact TQ.eq (fun m => by rw [Bool.not_false, cond_true]) (TQ.val rfl)
theorem pf_fit (l : List UInt8) (hl : l.length ≤ 2 ^ 20) : (pf l).1.fit ∧ (pf l).1.w ≤ 2 ^ 22 := by
  have hF : F0.fit ∧ F0.w ≤ 2 ^ 22 := by
    refine ⟨?_, by decide⟩
    simp only [Form.fit, Form.fits, and_true, List.length_nil]; decide
  unfold pf
  cases he : rd (2 * l.length + 2) 40 l with
  | none => exact hF
  | some p =>
    dsimp only
    cases hb : decide (skp p.2 = []) && decide (p.1.cnt ≤ 400) with
    | false => exact hF
    | true =>
      obtain ⟨q, _, r, _, h2, h3, h4⟩ := (imp_read (2 * l.length + 2)).1 40 l (by omega) hl (by omega)
      rw [he] at h4
      obtain ⟨h5, h6, _⟩ := h4
      obtain ⟨g1, g2⟩ := h3 h6
      rw [h5] at g1 g2
      exact ⟨g1, by show p.1.w ≤ 2 ^ 22; omega⟩
theorem pf_valid {l : List UInt8} (h : (pf l).2 = true) : (pf l).1.valid = true := by
  unfold pf at h ⊢
  cases he : rd (2 * l.length + 2) 40 l with
  | none => rw [he] at h; cases h
  | some p =>
    rw [he] at h
    dsimp only at h ⊢
    cases hb : decide (skp p.2 = []) && decide (p.1.cnt ≤ 400) with
    | false => rw [hb] at h; cases h
    | true =>
      unfold Form.valid
      simp at hb
      rw [cond_true, (rd_ok _).1 _ _ _ he, decide_eq_true hb.2]; rfl
end Go.Abs
end
section
set_option linter.unusedVariables false
set_option linter.unusedSimpArgs false
set_option maxHeartbeats 4000000
namespace Go.Abs
open Go.Lib (itoa join joinTail decDigits)
theorem wrd_app : ∀ {w y : List UInt8}, (∀ c ∈ w, dlm c = false) → (∀ c, y.head? = some c → dlm c = true) → wrd (w ++ y) = w ∧ rst (w ++ y) = y
  | [], y, _, hy => by
    rw [List.nil_append]
    cases y with
    | nil => exact ⟨rfl, rfl⟩
    | cons c r =>
      have := hy c rfl
      rw [wrd_cons, rst_cons, this]; exact ⟨rfl, rfl⟩
  | c :: w, y, hw, hy => by
    obtain ⟨h1, h2⟩ := wrd_app (fun x hx => hw x (List.mem_cons_of_mem _ hx)) hy
    rw [List.cons_append, wrd_cons, rst_cons, hw c (List.mem_cons_self ..), h1, h2]; exact ⟨rfl, rfl⟩
theorem bef_app {c : UInt8} : ∀ {w y : List UInt8}, (∀ x ∈ w, x ≠ c) → bef c (w ++ c :: y) = w ∧ aft c (w ++ c :: y) = c :: y
  | [], y, _ => by rw [List.nil_append, bef_cons, aft_cons, if_pos rfl, if_pos rfl]; exact ⟨rfl, rfl⟩
  | x :: w, y, h => by
    obtain ⟨h1, h2⟩ := bef_app (fun z hz => h z (List.mem_cons_of_mem _ hz)) (y := y)
    have hx := h x (List.mem_cons_self ..)
    rw [List.cons_append, bef_cons, aft_cons, if_neg hx, if_neg hx, h1, h2]; exact ⟨rfl, rfl⟩
theorem cutAt_no {c : UInt8} : ∀ {w : List UInt8}, (∀ x ∈ w, x ≠ c) → cutAt c w = [w]
  | [], _ => rfl
  | x :: w, h => by rw [cutAt, if_neg (h x (List.mem_cons_self ..)), cutAt_no (fun z hz => h z (List.mem_cons_of_mem _ hz))]
theorem cutAt_app {c : UInt8} : ∀ {w y : List UInt8}, (∀ x ∈ w, x ≠ c) → cutAt c (w ++ c :: y) = w :: cutAt c y
  | [], y, _ => by rw [List.nil_append, cutAt, if_pos rfl]
  | x :: w, y, h => by
    rw [List.cons_append, cutAt, if_neg (h x (List.mem_cons_self ..)), cutAt_app (fun z hz => h z (List.mem_cons_of_mem _ hz))]
theorem cutAt_tail {c : UInt8} : ∀ (x : List UInt8) (xs : List (List UInt8)), (∀ z ∈ x, z ≠ c) → (∀ w ∈ xs, ∀ z ∈ w, z ≠ c) → cutAt c (x ++ joinTail [c] xs) = x :: xs
  | x, [], h, _ => by
    have : joinTail [c] [] = [] := rfl
    rw [this, List.append_nil, cutAt_no h]
  | x, y :: r, h, hs => by
    rw [jt_cons, List.append_assoc, List.singleton_append, cutAt_app h, cutAt_tail y r (hs y (List.mem_cons_self ..)) (fun w hw => hs w (List.mem_cons_of_mem _ hw))]
theorem join_tail (x : List UInt8) (xs : List (List UInt8)) (sep : List UInt8) : join (x :: xs) sep = x ++ joinTail sep xs := Lib.join_cons x xs sep
theorem dec_dig : ∀ (n : Nat) (c : UInt8), c ∈ decDigits n → 48 ≤ c.toNat ∧ c.toNat ≤ 57 := by
  intro n
  induction n using Nat.strongRecOn with
  | _ n ih =>
    intro c hc
    by_cases h : n < 10
    · rw [Lib.decDigits_one h, List.mem_singleton] at hc
      subst hc; rw [dig_nat h]; omega
    · rw [decDigits, dif_neg h, List.mem_append, List.mem_singleton] at hc
      rcases hc with hc | rfl
      · exact ih (n / 10) (by omega) c hc
      · rw [dig_nat (by omega)]; omega
theorem dig_dlm {c : UInt8} (h : 48 ≤ c.toNat ∧ c.toNat ≤ 57) : dlm c = false ∧ c ≠ 44 ∧ c ≠ 125 ∧ c ≠ 32 ∧ c ≠ 40 ∧ c ≠ 41 := by
  have hn : ∀ k : UInt8, (k.toNat < 48 ∨ 57 < k.toNat) → c ≠ k := fun k hk e => by subst e; omega
  have h1 := hn 32 (by decide); have h2 := hn 40 (by decide); have h3 := hn 41 (by decide); have h4 := hn 123 (by decide); have h5 := hn 125 (by decide); have h6 := hn 44 (by decide)
  refine ⟨?_, h6, h5, h1, h2, h3⟩
  unfold dlm
  simp [h1, h2, h3, h4, h5]
theorem letter_dlm {c : UInt8} {b : Bool} (h : letterB (c.toNat : Int) b = true) : dlm c = false := by
  rw [Bool.eq_false_iff]
  intro hd
  unfold dlm at hd
  simp at hd
  rcases hd with rfl | rfl | rfl | rfl | rfl <;> (revert h; cases b <;> decide)
theorem nmF_dlm : ∀ (w : List UInt8) (k : Nat), nmF k w = true → ∀ c ∈ w, dlm c = false
  | [], _, _, c, hc => by simp at hc
  | x :: w, k, h, c, hc => by
    rw [nmF, Bool.and_eq_true] at h
    rcases List.mem_cons.1 hc with rfl | hc
    · exact letter_dlm h.1
    · exact nmF_dlm w (k + 1) h.2 c hc
theorem nmOk_dlm {w : List UInt8} (h : nmOk (mkB w) = true) : ∀ c ∈ w, dlm c = false := by
  unfold nmOk at h
  simp only [Bool.or_eq_true, decide_eq_true_eq, Bool.and_eq_true] at h
  rcases h with h | h | ⟨h, _⟩
  · obtain rfl := mkB_inj (b := [46, 46, 46]) h; decide
  · obtain rfl := mkB_inj (b := [95]) h; decide
  · rw [mkB_list] at h; exact nmF_dlm w 0 h
theorem nmOk_num {w : List UInt8} (h : nmOk (mkB w) = true) : numOf w = none := by
  cases hn : numOf w with
  | none => rfl
  | some n =>
    obtain ⟨_, rfl⟩ := numOf_some.1 hn
    cases hd : decDigits n with
    | nil => exact absurd hd (decD_ne n)
    | cons c r =>
      have := dec_dig n c (by rw [hd]; exact List.mem_cons_self ..)
      rw [hd, nmOk_dig (.inr this)] at h; cases h
theorem numsOf_itoa : ∀ (l : List Int), (∀ x ∈ l, 1 ≤ x ∧ x ≤ 99) → numsOf (l.map itoa) = some l
  | [], _ => rfl
  | x :: l, h => by
    have hx := h x (List.mem_cons_self ..)
    obtain ⟨k, rfl⟩ := Int.eq_ofNat_of_zero_le (show (0 : Int) ≤ x by omega)
    rw [List.map_cons, numsOf, itoa_nat, numOf_some.2 ⟨by omega, rfl⟩, numsOf_itoa l (fun y hy => h y (List.mem_cons_of_mem _ hy))]
theorem itoa_dig {x : Int} (h : 0 ≤ x) : ∀ c ∈ itoa x, 48 ≤ c.toNat ∧ c.toNat ≤ 57 := by
  obtain ⟨k, rfl⟩ := Int.eq_ofNat_of_zero_le h
  rw [itoa_nat]; exact dec_dig k
theorem okH_dlm {y : List UInt8} (h : okH y) : ∀ c, y.head? = some c → dlm c = true := by
  intro c hc
  rcases h with rfl | h | h | h
  · cases hc
  all_goals (rw [h] at hc; cases hc; rfl)
theorem okH_no {y : List UInt8} (h : okH y) : y.head? ≠ some 123 ∧ y.head? ≠ some 125 := by
  rcases h with rfl | h | h | h
  · exact ⟨by simp, by simp⟩
  all_goals (rw [h]; exact ⟨by decide, by decide⟩)
theorem rdAtom_num {n : Int} (h0 : 0 ≤ n) (h : n ≤ 999) {y : List UInt8} (hy : okH y) : rdAtom (itoa n ++ y) = some (fNum n, y) := by
  obtain ⟨k, rfl⟩ := Int.eq_ofNat_of_zero_le h0
  rw [itoa_nat]
  obtain ⟨h1, h2⟩ := wrd_app (fun c hc => (dig_dlm (dec_dig k c hc)).1) (okH_dlm hy)
  have h3 := okH_no hy
  unfold rdAtom
  rw [h1, h2, numOf_some.2 ⟨by omega, rfl⟩, decide_eq_false h3.2, cond_false]
  dsimp only
  rw [decide_eq_false h3.1, cond_false]
theorem rdAtom_name {w : List UInt8} (hw : nmOk (mkB w) = true) {sc : List Int} (hs : scOk sc = true) {y : List UInt8} (hy : okH y) : rdAtom (w ++ (scTx sc ++ y)) = some (fName w sc, y) := by
  have h3 := okH_no hy
  have hn := nmOk_num hw
  cases sc with
  | nil =>
    have e : scTx [] = [] := rfl
    rw [e, List.nil_append]
    obtain ⟨h1, h2⟩ := wrd_app (nmOk_dlm hw) (okH_dlm hy)
    unfold rdAtom
    rw [h1, h2, hn, hw, decide_eq_false h3.2, decide_eq_false h3.1]; rfl
  | cons x l =>
    have e : scTx (x :: l) ++ y = 123 :: (join ((x :: l).map itoa) [44] ++ 125 :: y) := by
      unfold scTx
      rw [decide_eq_false (by simp), cond_false, List.append_assoc, List.append_assoc]; rfl
    have hall := (scOk_all hs).1
    have hj : ∀ z ∈ (x :: l).map itoa, ∀ c ∈ z, 48 ≤ c.toNat ∧ c.toNat ≤ 57 := by
      intro z hz c hc
      obtain ⟨v, hv, rfl⟩ := List.mem_map.1 hz
      exact itoa_dig (by have := hall v hv; omega) c hc
    have hcut : cutAt 44 (join ((x :: l).map itoa) [44]) = (x :: l).map itoa := by
      rw [List.map_cons, join_tail]
      exact cutAt_tail _ _ (fun z hz => (dig_dlm (hj _ (List.mem_cons_self ..) z hz)).2.1) (fun w hw z hz => (dig_dlm (hj w (List.mem_cons_of_mem _ hw) z hz)).2.1)
    have hno : ∀ z ∈ join ((x :: l).map itoa) [44], z ≠ 125 := by
      have key : ∀ xs : List (List UInt8), (∀ w ∈ xs, ∀ c ∈ w, 48 ≤ c.toNat ∧ c.toNat ≤ 57) → ∀ z ∈ joinTail [44] xs, z ≠ 125 := by
        intro xs
        induction xs with
        | nil => intro _ z hz; simp [joinTail] at hz
        | cons v r ih =>
          intro h z hz
          rw [jt_cons, List.mem_append, List.mem_append] at hz
          rcases hz with (hz | hz) | hz
          · rw [List.mem_singleton] at hz; subst hz; decide
          · exact (dig_dlm (h v (List.mem_cons_self ..) z hz)).2.2.1
          · exact ih (fun w hw => h w (List.mem_cons_of_mem _ hw)) z hz
      rw [List.map_cons, join_tail]
      intro z hz
      rcases List.mem_append.1 hz with hz | hz
      · exact (dig_dlm (hj _ (List.mem_cons_self ..) z hz)).2.2.1
      · exact key _ (fun w hw => hj w (List.mem_cons_of_mem _ hw)) z hz
    rw [e]
    obtain ⟨h1, h2⟩ := wrd_app (y := 123 :: (join ((x :: l).map itoa) [44] ++ 125 :: y)) (nmOk_dlm hw) (fun c hc => by cases hc; rfl)
    obtain ⟨h4, h5⟩ := bef_app (y := y) hno
    unfold rdAtom
    rw [h1, h2, hn, hw]
    have hsets : rdSets (123 :: (join ((x :: l).map itoa) [44] ++ 125 :: y) : List UInt8).tail = some (x :: l, y) := by
      unfold rdSets
      rw [List.tail_cons, h5, h4]
      dsimp only
      rw [hcut, numsOf_itoa _ hall]
      dsimp only
      rw [hs]; rfl
    rw [hsets]
    rfl
def gB (b : Nat) (c : UInt8) : List UInt8 := c :: bif decide (c = 32) || (decide (c = 40) || decide (c = 41)) then List.replicate b 32 else []
def txb (b : Nat) (f : Form) : List UInt8 := f.tx.flatMap (gB b)
theorem gB_same {b : Nat} : ∀ {w : List UInt8}, (∀ c ∈ w, c ≠ 32 ∧ c ≠ 40 ∧ c ≠ 41) → w.flatMap (gB b) = w
  | [], _ => rfl
  | c :: w, h => by
    obtain ⟨h1, h2, h3⟩ := h c (List.mem_cons_self ..)
    rw [List.flatMap_cons, gB_same (fun x hx => h x (List.mem_cons_of_mem _ hx)), gB, decide_eq_false h1, decide_eq_false h2, decide_eq_false h3]; rfl
theorem skp_rep (b : Nat) (s : List UInt8) : skp (List.replicate b 32 ++ s) = skp s := by
  induction b with
  | zero => rfl
  | succ b ih => rw [List.replicate_succ, List.cons_append, skp_cons, if_pos rfl, ih]
theorem rl_skp (f d : Nat) (s : List UInt8) (acc : List Form) : rl f d (skp s) acc = rl f d s acc := by
  cases f with
  | zero => rw [rl, rl]
  | succ f => rw [rl, rl, skp_idem]
theorem rl_rep (f d b : Nat) (s : List UInt8) (acc : List Form) : rl f d (List.replicate b 32 ++ s) acc = rl f d s acc := by
  rw [← rl_skp, skp_rep, rl_skp]
def ktb (b : Nat) : List Form → List UInt8
  | [] => []
  | k :: r => 32 :: (List.replicate b 32 ++ (txb b k ++ ktb b r))
theorem gB_join (b : Nat) (ks : List Form) : (joinTail [32] (ks.map Form.tx)).flatMap (gB b) = ktb b ks := by
  induction ks with
  | nil => rfl
  | cons k r ih =>
    rw [List.map_cons, jt_cons, List.flatMap_append, List.flatMap_append, ih, ktb]
    have : ([32] : List UInt8).flatMap (gB b) = 32 :: List.replicate b 32 := by simp [gB]
    rw [this, List.cons_append, List.cons_append, List.append_assoc]; rfl
def trl (b : Nat) (f : Form) : List UInt8 := bif decide (f.kind = 3) then List.replicate b 32 else []
theorem okH_kt (b : Nat) (ks : List Form) (z : List UInt8) : okH (ktb b ks ++ 41 :: z) := by
  cases ks with
  | nil => exact .inr (.inr (.inr rfl))
  | cons k r => exact .inr (.inl rfl)
theorem isOk_cases {f : Form} {d : Nat} (h : f.isOk d = true) : d ≠ 0 ∧ ((∃ w sc, f = fName w sc ∧ nmOk (mkB w) = true ∧ scOk sc = true) ∨ (∃ n, f = fNum n ∧ 0 ≤ n ∧ n ≤ 999) ∨ (∃ ks, f = fList ks ∧ alls (fun x => x.isOk (d - 1)) ks = true)) := by
  obtain ⟨kd, nm, n, sc, ks⟩ := f
  rw [Form.isOk, Form.isOks_eq] at h
  by_cases hd : d = 0
  · rw [decide_eq_true hd] at h; cases h
  refine ⟨hd, ?_⟩
  rw [decide_eq_false hd, cond_false] at h
  by_cases h1 : kd = 1
  · rw [decide_eq_true h1, cond_true] at h
    simp only [Bool.and_eq_true, decide_eq_true_eq] at h
    obtain ⟨g1, g2, g3, g4⟩ := h
    have : ks = [] := List.eq_nil_of_length_eq_zero (by omega)
    subst h1; subst g2; subst this
    exact .inl ⟨nm.data.toList, sc, by rw [fName, mkB_of], by rw [mkB_of]; exact g1, g3⟩
  · rw [decide_eq_false h1, cond_false] at h
    by_cases h2 : kd = 2
    · rw [decide_eq_true h2, cond_true] at h
      simp only [Bool.and_eq_true, decide_eq_true_eq] at h
      obtain ⟨g1, ⟨g2, g3⟩, g4, g5⟩ := h
      have e1 : sc = [] := List.eq_nil_of_length_eq_zero (by omega)
      have e2 : ks = [] := List.eq_nil_of_length_eq_zero (by omega)
      subst h2; subst e1; subst e2; subst g1
      exact .inr (.inl ⟨n, rfl, g2, g3⟩)
    · rw [decide_eq_false h2, cond_false] at h
      simp only [Bool.and_eq_true, decide_eq_true_eq] at h
      obtain ⟨g1, g2, g3, g4, g5⟩ := h
      have e1 : sc = [] := List.eq_nil_of_length_eq_zero (by omega)
      subst g1; subst g2; subst g3; subst e1
      exact .inr (.inr ⟨ks, rfl, g5⟩)
theorem tx_name (w : List UInt8) (sc : List Int) : (fName w sc).tx = w ++ scTx sc := by
  rw [Form.tx_eq]
  show (mkB w).data.toList ++ scTx sc = _
  rw [mkB_list]
theorem tx_num (n : Int) : (fNum n).tx = itoa n := by rw [Form.tx_eq]; rfl
theorem tx_list (ks : List Form) : (fList ks).tx = [40] ++ join (ks.map Form.tx) [32] ++ [41] := by rw [Form.tx_eq]; rfl
theorem dlm_ne {c : UInt8} (h : dlm c = false) : c ≠ 32 ∧ c ≠ 40 ∧ c ≠ 41 := by
  unfold dlm at h
  simp at h
  exact ⟨h.1, h.2.1, h.2.2.1⟩
theorem scTx_no {sc : List Int} (hs : scOk sc = true) : ∀ c ∈ scTx sc, c ≠ 32 ∧ c ≠ 40 ∧ c ≠ 41 := by
  intro c hc
  unfold scTx at hc
  cases h0 : decide (sc.length = 0) with
  | true => rw [h0] at hc; simp at hc
  | false =>
    rw [h0, cond_false, List.mem_append, List.mem_append, List.mem_singleton, List.mem_singleton] at hc
    rcases hc with (rfl | hc) | rfl
    · decide
    · cases sc with
      | nil => simp at h0
      | cons x l =>
        have hall := (scOk_all hs).1
        have key : ∀ xs : List (List UInt8), (∀ w ∈ xs, ∀ c ∈ w, 48 ≤ c.toNat ∧ c.toNat ≤ 57) → ∀ z ∈ joinTail [44] xs, z ≠ 32 ∧ z ≠ 40 ∧ z ≠ 41 := by
          intro xs
          induction xs with
          | nil => intro _ z hz; simp [joinTail] at hz
          | cons v r ih =>
            intro h z hz
            rw [jt_cons, List.mem_append, List.mem_append] at hz
            rcases hz with (hz | hz) | hz
            · rw [List.mem_singleton] at hz; subst hz; decide
            · exact (dig_dlm (h v (List.mem_cons_self ..) z hz)).2.2.2
            · exact ih (fun w hw => h w (List.mem_cons_of_mem _ hw)) z hz
        rw [List.map_cons, join_tail, List.mem_append] at hc
        rcases hc with hc | hc
        · exact (dig_dlm (itoa_dig (by have := hall x (List.mem_cons_self ..); omega) c hc)).2.2.2
        · refine key _ ?_ c hc
          intro w hw z hz
          obtain ⟨v, hv, rfl⟩ := List.mem_map.1 hw
          exact itoa_dig (by have := hall v (List.mem_cons_of_mem _ hv); omega) z hz
    · decide
theorem txb_name (b : Nat) {w : List UInt8} (hw : nmOk (mkB w) = true) {sc : List Int} (hs : scOk sc = true) : txb b (fName w sc) = w ++ scTx sc := by
  unfold txb
  rw [tx_name]
  refine gB_same (fun c hc => ?_)
  rcases List.mem_append.1 hc with hc | hc
  · exact dlm_ne (nmOk_dlm hw c hc)
  · exact scTx_no hs c hc
theorem txb_num (b : Nat) {n : Int} (h : 0 ≤ n) : txb b (fNum n) = itoa n := by
  unfold txb
  rw [tx_num]
  exact gB_same (fun c hc => (dig_dlm (itoa_dig h c hc)).2.2.2)
theorem txb_list (b : Nat) (ks : List Form) : txb b (fList ks) = 40 :: (List.replicate b 32 ++ ((match ks with | [] => [] | k :: r => txb b k ++ ktb b r) ++ 41 :: List.replicate b 32)) := by
  unfold txb
  rw [tx_list, List.flatMap_append, List.flatMap_append]
  have e1 : ([40] : List UInt8).flatMap (gB b) = 40 :: List.replicate b 32 := by simp [gB]
  have e2 : ([41] : List UInt8).flatMap (gB b) = 41 :: List.replicate b 32 := by simp [gB]
  rw [e1, e2]
  cases ks with
  | nil =>
    show (40 :: List.replicate b 32 ++ ((join [] [32]).flatMap (gB b))) ++ (41 :: List.replicate b 32) = _
    rw [Lib.join_nil]; simp
  | cons k r =>
    rw [List.map_cons, join_tail, List.flatMap_append, gB_join]
    simp [txb]
theorem tx_head {f : Form} {d : Nat} (h : f.isOk d = true) (b : Nat) : ∃ c r, txb b f = c :: r ∧ c ≠ 32 ∧ c ≠ 41 := by
  obtain ⟨_, ⟨w, sc, rfl, h1, h2⟩ | ⟨n, rfl, h1, h2⟩ | ⟨ks, rfl, h1⟩⟩ := isOk_cases h
  · rw [txb_name b h1 h2]
    cases w with
    | nil => rw [nmOk_nil] at h1; cases h1
    | cons c r =>
      have := dlm_ne (nmOk_dlm h1 c (List.mem_cons_self ..))
      exact ⟨c, _, rfl, this.1, this.2.2⟩
  · rw [txb_num b h1]
    obtain ⟨k, rfl⟩ := Int.eq_ofNat_of_zero_le h1
    rw [itoa_nat]
    cases hd : decDigits k with
    | nil => exact absurd hd (decD_ne k)
    | cons c r =>
      have := (dig_dlm (dec_dig k c (by rw [hd]; exact List.mem_cons_self ..))).2.2.2
      exact ⟨c, r, rfl, this.1, this.2.2⟩
  · rw [txb_list]; exact ⟨40, _, rfl, by decide, by decide⟩
theorem rl_trl (F d b : Nat) (f : Form) (y : List UInt8) (acc : List Form) : rl F d (trl b f ++ y) acc = rl F d y acc := by
  unfold trl
  cases decide (f.kind = 3) with
  | true => exact rl_rep F d b y acc
  | false => rfl
def Back (b : Nat) (k : Form) (d : Nat) : Prop := ∀ (y : List UInt8), okH y → ∀ F, 2 * (txb b k).length ≤ F → rd F d (txb b k ++ y) = some (k, trl b k ++ y)
theorem rl_one {b d : Nat} {k : Form} (hk : k.isOk (d - 1) = true) (hb : Back b k (d - 1)) {y : List UInt8} (hy : okH y) (F : Nat) (hF : 2 * (txb b k).length ≤ F) (acc : List Form) : rl (F + 1) d (txb b k ++ y) acc = rl F d y (acc ++ [k]) := by
  obtain ⟨c, r, h1, h2, h3⟩ := tx_head hk b
  have hr := hb y hy F hF
  rw [h1, List.cons_append] at hr ⊢
  rw [rl, skp_cons, if_neg h2]
  dsimp only
  rw [decide_eq_false h3, cond_false, hr]
  dsimp only
  exact rl_trl F d b k y _
theorem rl_kids {b d : Nat} : ∀ (ks : List Form), (∀ k ∈ ks, k.isOk (d - 1) = true ∧ Back b k (d - 1)) → ∀ (z : List UInt8) (F : Nat) (acc : List Form), 2 * (ktb b ks).length + 1 ≤ F → rl F d (ktb b ks ++ 41 :: z) acc = some (acc ++ ks, z)
  | [], _, z, F, acc, hF => by
    obtain ⟨G, rfl⟩ : ∃ G, F = G + 1 := ⟨F - 1, by simp [ktb] at hF; omega⟩
    rw [ktb, List.nil_append, rl, skp_cons, if_neg (by decide)]
    dsimp only
    rw [decide_eq_true rfl, cond_true, List.append_nil]
  | k :: r, h, z, F, acc, hF => by
    obtain ⟨h1, h2⟩ := h k (List.mem_cons_self ..)
    rw [ktb] at hF ⊢
    rw [List.length_cons, List.length_append, List.length_append] at hF
    obtain ⟨G, rfl⟩ : ∃ G, F = G + 1 := ⟨F - 1, by omega⟩
    rw [List.cons_append, List.append_assoc, List.append_assoc, ← rl_skp, skp_cons, if_pos rfl, rl_skp, rl_rep, rl_one h1 h2 (okH_kt b r z) G (by omega), rl_kids r (fun x hx => h x (List.mem_cons_of_mem _ hx)) z G _ (by omega), List.append_assoc]
    rfl
theorem rd_back (b : Nat) : ∀ (n : Nat) (f : Form) (d : Nat), f.w ≤ n → f.isOk d = true → Back b f d := by
  intro n
  induction n with
  | zero => intro f d h; have := w_pos' f; omega
  | succ n ih =>
    intro f d hn h y hy F hF
    obtain ⟨c, r, h1, h2, h3⟩ := tx_head h b
    obtain ⟨hd, hc⟩ := isOk_cases h
    obtain ⟨G, rfl⟩ : ∃ G, F = G + 1 := ⟨F - 1, by rw [h1, List.length_cons] at hF; omega⟩
    have hs : skp (txb b f ++ y) = txb b f ++ y := skp_id (by rw [h1]; simpa using h2)
    rw [rd, hs]
    have hcons : txb b f ++ y = c :: (r ++ y) := by rw [h1]; rfl
    rcases hc with ⟨w, sc, rfl, g1, g2⟩ | ⟨k, rfl, g1, g2⟩ | ⟨ks, rfl, g1⟩
    · have ht := txb_name b g1 g2
      have hat := rdAtom_name g1 g2 hy
      rw [← List.append_assoc, ← ht, hcons] at hat
      rw [hcons]
      dsimp only
      have h40 : c ≠ 40 := by
        cases w with
        | nil => rw [nmOk_nil] at g1; cases g1
        | cons x w =>
          rw [ht, List.cons_append] at h1
          have := (dlm_ne (nmOk_dlm g1 x (List.mem_cons_self ..))).2.1
          rw [(List.cons.inj h1).1] at this; exact this
      rw [decide_eq_false hd, cond_false, decide_eq_false h40, cond_false, hat]
      rfl
    · have ht := txb_num b g1
      have hat := rdAtom_num g1 g2 hy
      rw [← ht, hcons] at hat
      rw [hcons]
      dsimp only
      have h40 : c ≠ 40 := by
        rw [ht] at h1
        exact (dig_dlm (itoa_dig g1 c (by rw [h1]; exact List.mem_cons_self ..))).2.2.2.2.1
      rw [decide_eq_false hd, cond_false, decide_eq_false h40, cond_false, hat]
      rfl
    · have ht := txb_list b ks
      have hkid : ∀ k ∈ ks, k.isOk (d - 1) = true ∧ Back b k (d - 1) := fun k hk => by
        have := alls_iff.1 g1 k hk
        exact ⟨this, ih k (d - 1) (by have := Form.ws_mem hk; rw [Form.w] at hn; omega) this⟩
      rw [ht, List.length_cons, List.length_append, List.length_append, List.length_cons] at hF
      rw [ht, List.cons_append]
      dsimp only
      rw [decide_eq_false hd, cond_false, decide_eq_true rfl, cond_true]
      have key : rl G d ((List.replicate b 32 ++ ((match ks with | [] => [] | k :: r => txb b k ++ ktb b r) ++ 41 :: List.replicate b 32)) ++ y) [] = some (ks, List.replicate b 32 ++ y) := by
        rw [List.append_assoc, rl_rep, List.append_assoc, List.cons_append]
        cases ks with
        | nil =>
          have := rl_kids (b := b) (d := d) [] (by simp) (List.replicate b 32 ++ y) G [] (by simp [ktb]; omega)
          rw [ktb] at this; exact this
        | cons k r =>
          dsimp only at hF ⊢
          rw [List.length_append] at hF
          obtain ⟨H, rfl⟩ : ∃ H, G = H + 1 := ⟨G - 1, by omega⟩
          rw [List.append_assoc, rl_one (hkid k (List.mem_cons_self ..)).1 (hkid k (List.mem_cons_self ..)).2 (okH_kt b r _) H (by omega), rl_kids r (fun x hx => hkid x (List.mem_cons_of_mem _ hx)) _ H _ (by omega)]
          rfl
      rw [key]
      rfl
theorem pf_back {f : Form} (hv : f.valid = true) (b a : Nat) : pf (List.replicate a 32 ++ txb b f) = (f, true) := by
  unfold Form.valid at hv
  rw [Bool.and_eq_true] at hv
  have h := rd_back b f.w f 40 (Nat.le_refl _) hv.1 [] (.inl rfl) (2 * (List.replicate a 32 ++ txb b f).length + 2) (by rw [List.length_append]; omega)
  rw [List.append_nil] at h
  have h2 : rd (2 * (List.replicate a 32 ++ txb b f).length + 2) 40 (List.replicate a 32 ++ txb b f) = rd (2 * (List.replicate a 32 ++ txb b f).length + 2) 40 (txb b f) := by
    rw [rd, rd, skp_rep]
  unfold pf
  rw [h2, h]
  dsimp only
  have h3 : skp (trl b f ++ []) = [] := by
    unfold trl
    cases decide (f.kind = 3) with
    | true => rw [cond_true, skp_rep]; rfl
    | false => rfl
  rw [h3, decide_eq_true rfl, Bool.true_and, hv.2]; rfl
theorem txb_zero (f : Form) : txb 0 f = f.tx := by
  unfold txb
  have : ∀ l : List UInt8, l.flatMap (gB 0) = l := by
    intro l
    induction l with
    | nil => rfl
    | cons c l ih =>
      rw [List.flatMap_cons, ih, gB]
      cases decide (c = 32) || (decide (c = 40) || decide (c = 41)) <;> rfl
  exact this _
end Go.Abs
end
section
set_option linter.unusedVariables false
set_option linter.unusedSimpArgs false
set_option maxHeartbeats 4000000
namespace Go.Abs
theorem isOk_w2 : ∀ (n : Nat) (f : Form), f.w ≤ n → ∀ d, f.isOk d = true → f.w + 1 ≤ 26 * f.cnt := by
  intro n
  induction n with
  | zero => intro f h; have := f.w_kids; omega
  | succ n ih =>
    intro f hn d hd
    have hw := f.w_kids
    have hc := Form.cnt_eq f
    obtain ⟨k1, k2⟩ := isOk_kids hd
    have hsc : f.scopes.length ≤ 24 := by
      rw [Form.isOk_eq] at hd
      cases hd0 : decide (d = 0) with
      | true => rw [hd0] at hd; cases hd
      | false =>
      rw [hd0, cond_false] at hd
      by_cases h1 : f.kind = 1
      · rw [decide_eq_true h1, cond_true] at hd
        unfold scOk at hd
        simp only [Bool.and_eq_true, decide_eq_true_eq] at hd
        omega
      · rw [decide_eq_false h1, cond_false] at hd
        by_cases h2 : f.kind = 2
        · rw [decide_eq_true h2, cond_true] at hd
          simp only [Bool.and_eq_true, decide_eq_true_eq] at hd
          omega
        · rw [decide_eq_false h2, cond_false] at hd
          simp only [Bool.and_eq_true, decide_eq_true_eq] at hd
          omega
    have hk : Form.ws f.kids ≤ 26 * Form.cnts f.kids := by
      have : ∀ l : List Form, (∀ x ∈ l, x ∈ f.kids) → Form.ws l ≤ 26 * Form.cnts l := by
        intro l
        induction l with
        | nil => intro _; rw [Form.ws]; omega
        | cons x l ihl =>
          intro hx
          have h1 := ihl (fun y hy => hx y (by simp [hy]))
          have hm := hx x (by simp)
          have h2 := Form.ws_mem hm
          have h3 := ih x (by omega) _ (k2 x hm)
          rw [Form.cnts, Form.ws]; omega
      exact this _ (fun x hx => hx)
    omega
theorem valid_w2 {f : Form} (h : f.valid = true) : f.w ≤ 10400 := by
  unfold Form.valid at h
  rw [Bool.and_eq_true, decide_eq_true_eq] at h
  have := isOk_w2 _ f (Nat.le_refl _) 40 h.1
  omega
theorem dressLoop2 {L : Nat → Int → List Int → Int → List Form → Option (Form × l15Rd)} {fin : List Form → Form}
    (h0 : ∀ m k b p acc, L (m + 1) k b p acc = bif decide (k < (acc.length : Int)) then (idx acc k).bind fun x => (m_spec_l1Dress m (l15Rd.mk b p) x).bind fun r => (idx acc k).bind fun _ => L m (k + 1) r.2.b r.2.p (acc.set k.toNat r.1) else some (fin acc, l15Rd.mk b p)) :
    ∀ (zs d : List Form) (o : l15Rd) (K : Int), (∀ x ∈ zs, ∀ (o : l15Rd) (K : Int), OkRd o K → K + 3 * x.w ≤ 1000000000 → TQ (fun m => m_spec_l1Dress m o x) (fun r => OkRd r.2 (K + x.w) ∧ r.1.w ≤ 4 * x.w ∧ r.1.fit ∧ ∀ dd, x.isOk dd = true → r.1.isOk dd = true)) → OkRd o K → K + 3 * Form.ws zs ≤ 1000000000 → Form.fits d →
      TQ (fun m => L m (d.length : Int) o.b o.p (d ++ zs)) (fun r => ∃ e, r.1 = fin e ∧ Form.ws e ≤ Form.ws d + 4 * Form.ws zs ∧ Form.fits e ∧ e.length = d.length + zs.length ∧ OkRd r.2 (K + Form.ws zs) ∧ ∀ dd, alls (fun x => x.isOk dd) d = true → alls (fun x => x.isOk dd) zs = true → alls (fun x => x.isOk dd) e = true)
  | [], d, o, K, _, ho, _, hd => by
    refine TQ.step (fun m => by rw [h0, List.append_nil, ltN_self, cond_false]) (TQ.val ⟨d, rfl, by simp [Form.ws], hd, by simp, ?_, fun dd h _ => h⟩)
    simpa [Form.ws] using ho.mk'
  | x :: zs, d, o, K, hx, ho, hK, hd => by
    rw [Form.ws] at hK
    have hi : (d ++ x :: zs)[d.length]? = some x := by simp
    refine TQ.step (fun m => by rw [h0, ltN (by simp), cond_true, idx_nat hi, Option.bind_some, Int.toNat_natCast]) ?_
    refine TQ.bind (hx x (by simp) _ K ho.mk' (by omega)) (fun r hr => ?_)
    refine TQ.eq (fun m => by rw [Option.bind_some, set_mid, show (d.length : Int) + 1 = ((d ++ [r.1]).length : Int) by simp]) ?_
    refine TQ.mono (dressLoop2 h0 zs (d ++ [r.1]) r.2 (K + x.w) (fun y hy => hx y (by simp [hy])) hr.1 (by omega) (Form.fits_app hd (by rw [Form.fits, Form.fits]; exact ⟨hr.2.2.1, trivial⟩))) (fun q hq => ?_)
    obtain ⟨e, e1, e2, e3, e4, e5, e6⟩ := hq
    refine ⟨e, e1, ?_, e3, by rw [e4]; simp; omega, e5.mono (by rw [Form.ws]; omega), fun dd hd1 hz => ?_⟩
    rotate_left
    · rw [alls, Bool.and_eq_true] at hz
      exact e6 dd (by rw [alls_app, hd1, alls, hr.2.2.2 dd hz.1]; rfl) hz.2
    rw [Form.ws_append, Form.ws, Form.ws] at e2
    rw [Form.ws]; omega
theorem l1Dress2_tq : ∀ (n : Nat) (c : Form) (o : l15Rd) (K : Int), c.w ≤ n → OkRd o K → c.w ≤ 2 ^ 30 → c.fit → K + 3 * c.w ≤ 1000000000 → TQ (fun m => m_spec_l1Dress m o c) (fun r => OkRd r.2 (K + c.w) ∧ r.1.w ≤ 4 * c.w ∧ r.1.fit ∧ ∀ dd, c.isOk dd = true → r.1.isOk dd = true) := by
  intro n
  induction n with
  | zero => intro c o K h; have := c.w_kids; omega
  | succ n ih =>
    intro c o K h ho hb hf hK
    have hw := c.w_kids
    have hlen := Form.ws_len c.kids
    obtain ⟨f1, f2, f3, f4⟩ := hf.parts
    have step : ∀ x ∈ c.kids, ∀ (o : l15Rd) (K : Int), OkRd o K → K + 3 * x.w ≤ 1000000000 → TQ (fun m => m_spec_l1Dress m o x) (fun r => OkRd r.2 (K + x.w) ∧ r.1.w ≤ 4 * x.w ∧ r.1.fit ∧ ∀ dd, x.isOk dd = true → r.1.isOk dd = true) := fun x hx o K ho hK => by
      have := Form.ws_mem hx
      exact ih x o K (by omega) ho (by omega) (Form.fits_mem f4 hx) hK
    refine TQ.step (fun m => by rw [m_spec_l1Dress]) (TQ.ev (l1Copy_tr _ c (Nat.le_refl _) (by omega)) ?_)
    refine TQ.cond (fun hk1 => ?_) (fun hk1 => ?_)
    · refine TQ.bind (pick_tq o _ _ ho (by omega)) (fun v hv => ?_)
      obtain ⟨h1, _, h2, _⟩ := hv
      obtain ⟨h2, h3⟩ := h2 (by decide)
      refine TQ.idx h2 h3 (fun sc hsc => ?_)
      have hsl : sc.length ≤ 3 := by
        simp only [List.mem_cons, List.not_mem_nil, or_false] at hsc
        rcases hsc with h | h | h | h | h | h | h <;> rw [h] <;> decide
      refine TQ.chk (decide_eq_true (by simp only [List.length_nil]; omega)) ?_
      have key := dressLoop2 (L := fun m k b p acc => m_spec_l1Dress_l1 m c sc k b p acc) (fin := fun e => Form.mk c.kind c.name c.n (([] : List Int) ++ sc) e) (fun m k b p acc => by rw [m_spec_l1Dress_l1]) c.kids [] v.2 (K + 1) step h1 (by omega) (by rw [Form.fits]; trivial)
      refine TQ.mono key (fun r hr => ?_)
      obtain ⟨e, e1, e2, e3, e4, e5, e6⟩ := hr
      simp only [Form.ws, List.length_nil, Nat.zero_add] at e2 e4
      refine ⟨e5.mono (by omega), ?_, ?_, ?_⟩
      · rw [e1]; simp only [Form.w, List.nil_append]; omega
      · rw [e1, Form.fit]; exact ⟨f1, by rw [List.nil_append]; omega, by omega, e3⟩
      · intro dd hdd
        rw [e1, List.nil_append]
        have hk1 := of_decide_eq_true hk1
        obtain ⟨hd0, ⟨w, sc0, rfl, g1, g2⟩ | ⟨k, rfl, g1, g2⟩ | ⟨ks, rfl, g1⟩⟩ := isOk_cases hdd
        · have he : e = [] := List.eq_nil_of_length_eq_zero (by rw [e4]; rfl)
          subst he
          show (fName w sc).isOk dd = true
          rw [isOk_nm hd0, g1, Bool.true_and]
          simp only [List.mem_cons, List.not_mem_nil, or_false] at hsc
          rcases hsc with h | h | h | h | h | h | h <;> rw [h] <;> decide
        · exact absurd (show (2 : Int) = 1 from hk1) (by decide)
        · exact absurd (show (3 : Int) = 1 from hk1) (by decide)
    · have key := dressLoop2 (L := fun m k b p acc => m_spec_l1Dress_l2 m c k b p acc) (fin := fun e => Form.mk c.kind c.name c.n c.scopes e) (fun m k b p acc => by rw [m_spec_l1Dress_l2]) c.kids [] o K step ho (by omega) (by rw [Form.fits]; trivial)
      refine TQ.mono key (fun r hr => ?_)
      obtain ⟨e, e1, e2, e3, e4, e5, e6⟩ := hr
      simp only [Form.ws, List.length_nil, Nat.zero_add] at e2 e4
      refine ⟨e5.mono (by omega), ?_, ?_, ?_⟩
      · rw [e1]; simp only [Form.w]; omega
      · rw [e1, Form.fit]; exact ⟨f1, f2, by omega, e3⟩
      · intro dd hdd
        rw [e1]
        obtain ⟨hd0, ⟨w, sc0, rfl, g1, g2⟩ | ⟨k, rfl, g1, g2⟩ | ⟨ks, rfl, g1⟩⟩ := isOk_cases hdd
        · exact absurd (show (1 : Int) = 1 from rfl) (of_decide_eq_false hk1)
        · have he : e = [] := List.eq_nil_of_length_eq_zero (by rw [e4]; rfl)
          subst he
          exact hdd
        · show (fList e).isOk dd = true
          rw [isOk_list hd0]
          exact e6 (dd - 1) rfl g1
theorem nameFormK_tr (s : ByteArray) : Tr (fun m => m_spec_l1Name m s) (Form.mk 1 s 0 ([] : List Int) ([] : List Form)) := Tr.of (fun m => by unfold m_spec_l1Name; rfl)
def bK : Nat → Nat
  | 0 => 10
  | d + 1 => 4 * bK d
theorem bK_ge : ∀ d, 10 ≤ bK d
  | 0 => Nat.le_refl _
  | d + 1 => by have := bK_ge d; rw [bK]; omega
structure DrK (d n : Nat) (f : Form) : Prop where
  w : f.w ≤ n
  fit : f.fit
  ok : ∀ dd, d + 1 ≤ dd → f.isOk dd = true
theorem DrK.mono {d d' n n' : Nat} {f : Form} (h : DrK d n f) (hd : d ≤ d') (hn : n ≤ n') : DrK d' n' f := ⟨by have := h.w; omega, h.fit, fun dd hdd => h.ok dd (by omega)⟩
theorem leafK_num (n : Int) (h : 0 ≤ n ∧ n ≤ 999) : DrK 0 1 (Form.mk 2 (⟨#[]⟩ : ByteArray) n ([] : List Int) ([] : List Form)) := ⟨by simp [Form.w, Form.ws], by simp only [Form.fit, Form.fits, List.length_nil]; exact ⟨by decide, by decide, by decide, trivial⟩, fun dd hdd => by
  show (fNum n).isOk dd = true
  rw [isOk_num (by omega), decide_eq_true h.1, decide_eq_true h.2]; rfl⟩
theorem leafK_name (s : ByteArray) (h : s.size ≤ 100) (hn : nmOk s = true) : DrK 0 1 (Form.mk 1 s 0 ([] : List Int) ([] : List Form)) := ⟨by simp [Form.w, Form.ws], by simp only [Form.fit, Form.fits, List.length_nil]; exact ⟨by omega, by decide, by decide, trivial⟩, fun dd hdd => by
  have := isOk_nm (w := s.data.toList) (ns := []) (d := dd) (by omega)
  rw [fName, mkB_of, hn] at this
  rw [this]; rfl⟩
theorem l1SomeK_leaf (o : l15Rd) (K : Int) (ho : OkRd o K) (hK : K ≤ 1000000000) {R : Form × l15Rd → Prop} (hR : ∀ f o', DrK 0 1 f → OkRd o' (K + 2) → R (f, o')) :
    TQ (fun m => (m_spec_l15Rd_pick m o 4).bind fun v2 => bif decide (v2.1 = 0) then (m_spec_l15Rd_num m v2.2 [0, 1, 2, 7, 42, 999]).bind fun v4 => some ((Form.mk 2 (⟨#[]⟩ : ByteArray) v4.1 ([] : List Int) ([] : List Form)), v4.2)
      else (m_spec_l15Rd_of m v2.2 [(⟨#[97]⟩ : ByteArray), (⟨#[98]⟩ : ByteArray), (⟨#[120]⟩ : ByteArray), (⟨#[121]⟩ : ByteArray), (⟨#[102]⟩ : ByteArray), (⟨#[105, 102]⟩ : ByteArray), (⟨#[108, 101, 116]⟩ : ByteArray), (⟨#[43]⟩ : ByteArray)]).bind fun v5 => (m_spec_l1Name m v5.1).bind fun v6 => some (v6, v5.2)) R := by
  refine TQ.bind (pick_tq o 4 K ho (by omega)) (fun v hv => TQ.cond (fun _ => ?_) (fun _ => ?_))
  · refine TQ.bind (num_tq _ _ _ hv.1 (by omega) (by decide)) (fun w hw => TQ.val (hR _ _ (leafK_num _ (by
      have h2 := hw.2
      simp only [List.mem_cons, List.not_mem_nil, or_false] at h2
      rcases h2 with h2 | h2 | h2 | h2 | h2 | h2 <;> rw [h2] <;> decide)) (hw.1.mono (by omega))))
  · refine TQ.bind (of_tq _ _ _ hv.1 (by omega) (by decide)) (fun w hw => TQ.ev (nameFormK_tr _) (TQ.val (hR _ _ (leafK_name _ ?_ ?_) (hw.1.mono (by omega)))))
    all_goals
      have h2 := hw.2
      simp only [List.mem_cons, List.not_mem_nil, or_false] at h2
      rcases h2 with h2 | h2 | h2 | h2 | h2 | h2 | h2 | h2 <;> rw [h2] <;> first | decide | rfl
theorem l1SomeK_tq : ∀ (d : Nat), d ≤ 10 → ∀ (o : l15Rd) (K : Int), OkRd o K → K + bK d ≤ 1000000000 → TQ (fun m => m_spec_l1Some m o (d : Int)) (fun r => DrK d (bK d) r.1 ∧ OkRd r.2 (K + bK d)) := by
  intro d
  induction d with
  | zero =>
    intro _ o K ho hK
    rw [bK] at hK ⊢
    refine TQ.step (fun m => by rw [m_spec_l1Some]) (TQ.eq (fun m => by rw [decide_eq_true (show ((0 : Nat) : Int) = 0 from rfl), cond_true]) ?_)
    exact l1SomeK_leaf o K ho (by omega) (fun f o' hf ho' => ⟨hf.mono (by omega) (by omega), ho'.mono (by omega)⟩)
  | succ d ih =>
    intro hd o K ho hK
    have hb := bK_ge d
    rw [bK] at hK ⊢
    refine TQ.step (fun m => by rw [m_spec_l1Some]) (TQ.eq (fun m => by rw [decide_eq_false (show ¬ ((d + 1 : Nat) : Int) = 0 by omega), cond_false]) ?_)
    refine TQ.bind (pick_tq o 3 K ho (by omega)) (fun v hv => TQ.cond (fun _ => ?_) (fun _ => ?_))
    · exact l1SomeK_leaf v.2 _ hv.1 (by omega) (fun f o' hf ho' => ⟨hf.mono (by omega) (by omega), ho'.mono (by omega)⟩)
    refine TQ.bind (pick_tq v.2 4 _ hv.1 (by omega)) (fun w hw => ?_)
    obtain ⟨w1, _, w2, _⟩ := hw
    obtain ⟨w2, w3⟩ := w2 (by decide)
    have loop : ∀ (c : Nat), c ≤ 3 → ∀ (o' : l15Rd) (K' : Int) (acc : List Form) (T : Nat), OkRd o' K' → T = c * (bK d + 1) → K' + T ≤ 1000000000 → acc.length + c ≤ 3 → Form.fits acc → (∀ x ∈ acc, ∀ dd, d + 1 ≤ dd → x.isOk dd = true) → TQ (fun m => m_spec_l1Some_l1 m ((d + 1 : Nat) : Int) (c : Int) o'.b o'.p acc) (fun r => DrK (d + 1) (1 + Form.ws acc + T) r.1 ∧ OkRd r.2 (K' + T)) := by
      intro c
      induction c with
      | zero =>
        intro _ o' K' acc T ho' hT hK' _ hfit hok
        rw [Nat.zero_mul] at hT
        subst hT
        refine TQ.step (fun m => by rw [m_spec_l1Some_l1, decide_eq_false (show ¬ (0 : Int) < ((0 : Nat) : Int) by decide), cond_false]) (TQ.val ⟨⟨?_, ?_, ?_⟩, ho'.mk'.mono (K' := K' + ((0 : Nat) : Int)) (by omega)⟩)
        · simp [Form.w]
        · simp only [Form.fit, List.length_nil]; exact ⟨by decide, by decide, by omega, hfit⟩
        · intro dd hdd
          show (fList acc).isOk dd = true
          rw [isOk_list (by omega)]
          exact alls_iff.2 (fun x hx => hok x hx (dd - 1) (by omega))
      | succ c ihc =>
        intro hc o' K' acc T ho' hT hK' hlen hfit hok
        rw [Nat.succ_mul] at hT
        refine TQ.step (fun m => by rw [m_spec_l1Some_l1, decide_eq_true (show (0 : Int) < ((c + 1 : Nat) : Int) by omega), cond_true, show w64 (((d + 1 : Nat) : Int) - 1) = (d : Int) by rw [w64_in (by omega)]; omega, show w64 (((c + 1 : Nat) : Int) - 1) = (c : Int) by rw [w64_in (by omega)]; omega]) ?_
        refine TQ.bind (ih (by omega) _ K' ho'.mk' (by omega)) (fun z hz => ?_)
        have zw := hz.1.w
        have hws : Form.ws (acc ++ [z.1]) = Form.ws acc + (z.1.w + 1) := by rw [Form.ws_append]; simp [Form.ws]; omega
        refine TQ.chk (decide_eq_true (by simp; omega)) (TQ.mono (ihc (by omega) z.2 (K' + bK d) (acc ++ [z.1]) (c * (bK d + 1)) hz.2 rfl (by omega) (by simp; omega) ?_ ?_) (fun r hr => ⟨hr.1.mono (Nat.le_refl _) (by omega), hr.2.mono (by omega)⟩))
        rotate_left
        · intro x hx
          rcases List.mem_append.1 hx with hx | hx
          · exact hok x hx
          · rw [List.mem_singleton] at hx; subst hx; exact hz.1.ok
        have : ∀ l : List Form, Form.fits l → Form.fits (l ++ [z.1]) := by
          intro l
          induction l with
          | nil => intro _; rw [List.nil_append, Form.fits]; exact ⟨hz.1.fit, by rw [Form.fits]; trivial⟩
          | cons y l ihl => intro h; rw [Form.fits] at h; rw [List.cons_append, Form.fits]; exact ⟨h.1, ihl h.2⟩
        exact this acc hfit
    obtain ⟨c, hc⟩ := Int.eq_ofNat_of_zero_le w2
    rw [hc]
    have hc3 : c ≤ 3 := by omega
    have hT : c * (bK d + 1) ≤ 3 * (bK d + 1) := Nat.mul_le_mul_right _ hc3
    refine TQ.mono (loop c hc3 w.2 _ [] _ w1 rfl (by omega) (by simp; omega) (by rw [Form.fits]; trivial) (by simp)) (fun r hr => ⟨hr.1.mono (Nat.le_refl _) (by rw [Form.ws]; omega), hr.2.mono (by omega)⟩)
theorem l1Bend_tq (o : l15Rd) (s : ByteArray) (bits : List ByteArray) (K : Int) (ho : OkRd o K) (hK : K ≤ 1000000000) (hs : s.size ≤ 2 ^ 30) (hb : bits ≠ []) (hbl : ∀ x ∈ bits, x.size ≤ 10) :
    TQ (fun m => m_spec_l1Bend m o s bits) (fun r => r.1.size ≤ s.size + 10) := by
  refine TQ.eq (fun m => by unfold m_spec_l1Bend; rfl) (TQ.cond (fun _ => ?_) (fun h0 => ?_))
  · exact TQ.step (fun m => by rw [m_spec_l1Bend_j1, cond_true]) (TQ.val (by show s.size ≤ s.size + 10; omega))
  · have hpos : 0 < s.size := by have := of_decide_eq_false h0; omega
    refine TQ.bind (pick_tq o 2 K ho (by omega)) (fun v hv => ?_)
    cases hd : decide (v.1 = 0) with
    | true => exact TQ.step (fun m => by rw [m_spec_l1Bend_j1, cond_true]) (TQ.val (by show s.size ≤ s.size + 10; omega))
    | false =>
      refine TQ.step (fun m => by rw [m_spec_l1Bend_j1, cond_false]) (TQ.bind (pick_tq _ _ (K + 1) hv.1.mk' (by omega)) (fun k hk => ?_))
      obtain ⟨k1, _, k2, _⟩ := hk
      obtain ⟨k2, k3⟩ := k2 (by omega)
      have b1 : Tr (fun _ : Nat => bsub s 0 k.1) (s.extract 0 k.1.toNat) := Tr.of fun _ => by
        unfold bsub
        rw [decide_eq_true (show (0 : Int) ≤ 0 by decide), decide_eq_true k2, decide_eq_true (by omega)]; rfl
      refine TQ.ev b1 (TQ.bind (of_tq _ _ (K + 1 + 1) k1 (by omega) (by cases bits with | nil => exact absurd rfl hb | cons _ _ => simp)) (fun w hw => ?_))
      have hwl := hbl w.1 hw.2
      have z1 : (s.extract 0 k.1.toNat).size ≤ s.size := by simp only [ByteArray.size_extract]; omega
      have b2 : Tr (fun _ : Nat => bcat (s.extract 0 k.1.toNat) w.1) (s.extract 0 k.1.toNat ++ w.1) := Tr.of fun _ => by
        unfold bcat; rw [decide_eq_true (by omega)]; rfl
      refine TQ.ev b2 (TQ.bind (pick_tq _ 2 (K + 1 + 1 + 1) hw.1 (by omega)) (fun p hp => ?_))
      obtain ⟨_, _, p2, _⟩ := hp
      obtain ⟨p2, p3⟩ := p2 (by decide)
      have b3 : Tr (fun _ : Nat => bsub s (w64 (k.1 + p.1)) (s.size : Int)) (s.extract (k.1 + p.1).toNat s.size) := Tr.of fun _ => by
        rw [w64_in (by omega)]
        unfold bsub
        rw [decide_eq_true (show (0 : Int) ≤ k.1 + p.1 by omega), decide_eq_true (show k.1 + p.1 ≤ (s.size : Int) by omega), decide_eq_true (Int.le_refl _)]; rfl
      have z2 : (s.extract 0 k.1.toNat ++ w.1).size = (s.extract 0 k.1.toNat).size + w.1.size := ByteArray.size_append ..
      have z3 : (s.extract (k.1 + p.1).toNat s.size).size ≤ s.size - k.1.toNat := by simp only [ByteArray.size_extract]; omega
      have z4 : (s.extract 0 k.1.toNat).size ≤ k.1.toNat := by simp only [ByteArray.size_extract]; omega
      refine TQ.ev b3 (TQ.ev (v := (s.extract 0 k.1.toNat ++ w.1) ++ s.extract (k.1 + p.1).toNat s.size) (Tr.of fun _ => by unfold bcat; rw [decide_eq_true (by omega)]; rfl) (TQ.val ?_))
      show ((s.extract 0 k.1.toNat ++ w.1) ++ s.extract (k.1 + p.1).toNat s.size).size ≤ s.size + 10
      rw [ByteArray.size_append]; omega
end Go.Abs
end
section
set_option linter.unusedVariables false
set_option linter.unusedSimpArgs false
set_option maxHeartbeats 4000000
namespace Go.Abs
def fmt (f : Form) : List UInt8 := bif f.valid then f.tx else []
theorem valid_ok {f : Form} (h : f.valid = true) : f.isOk 40 = true := by
  unfold Form.valid at h; rw [Bool.and_eq_true] at h; exact h.1
theorem implFormat_tr (f : Form) (hf : f.fit) (hb : f.w ≤ 2 ^ 30) : Tr (fun m => m_impl_FormatForm m f) (mkB (fmt f)) := by
  refine Tr.eq (fun m => by unfold m_impl_FormatForm; rfl) (Tr.bind (implFormValid_tr f hf) ?_)
  unfold fmt
  cases hv : f.valid with
  | false => exact Tr.tt rfl Tr.val
  | true => exact Tr.ff rfl (Tr.bind (implText_tr hb (valid_ok hv)) Tr.val)
theorem specFormat_tr (f : Form) (hf : f.fit) (hb : f.w ≤ 2 ^ 30) : Tr (fun m => m_spec_FormatForm m f) (mkB (fmt f)) := by
  refine Tr.eq (fun m => by unfold m_spec_FormatForm; rfl) (Tr.bind (specFormValid_tr f hf (by omega)) ?_)
  unfold fmt
  cases hv : f.valid with
  | false => exact Tr.tt rfl Tr.val
  | true => exact Tr.ff rfl (Tr.bind (specText_tr hb (valid_ok hv)) Tr.val)
theorem fmt_len (f : Form) : (fmt f).length ≤ 166400 := by
  unfold fmt
  cases hv : f.valid with
  | false => simp
  | true =>
    have h1 := tx_len f.w f 40 (Nat.le_refl _) (valid_ok hv)
    have h2 := valid_w2 hv
    rw [cond_true]; omega
theorem pf_fmt (f : Form) : pf (fmt f) = if f.valid = true then (f, true) else (F0, false) := by
  unfold fmt
  cases hv : f.valid with
  | false =>
    rw [if_neg (by simp), cond_false]
    unfold pf
    rw [rd, skp_nil]
  | true =>
    rw [if_pos rfl, cond_true]
    have := pf_back hv 0 0
    rw [txb_zero] at this
    exact this
theorem DrawForm_tq (code : List Int) (h : ∀ x ∈ code, 0 ≤ x ∧ x < 256) : TQ (fun m => m_spec_DrawFormatForm m code) (fun f => f.fit ∧ f.w ≤ 2 ^ 20) := by
  refine TQ.eq (fun m => by unfold m_spec_DrawFormatForm m_spec_DrawFormValid; rfl) ?_
  have key : TQ (fun m => (m_spec_l15Open m code).bind fun v1 =>
 (m_spec_l15Rd_num m v1 [3, 2, 4]).bind fun v2 =>
 (m_spec_l1Some m v2.2 v2.1).bind fun v3 =>
 (m_spec_l1Dress m v3.2 v3.1).bind fun v4 =>
 (m_spec_l1Mutate m v4.2 v4.1).bind fun v5 =>
 (m_spec_l1Mutate m v5.2 v5.1).bind fun v6 =>
 some v6.1) (fun f => f.fit ∧ f.w ≤ 2 ^ 20) := by
    refine TQ.bind (open_tq code h) (fun r hr => TQ.bind (num_tq _ _ 0 hr (by decide) (by decide)) (fun z hz => ?_))
    have hd : ∃ d : Nat, z.1 = (d : Int) ∧ d ≤ 4 := by
      have h2 := hz.2
      simp only [List.mem_cons, List.not_mem_nil, or_false] at h2
      rcases h2 with h2 | h2 | h2
      · exact ⟨3, h2, by decide⟩
      · exact ⟨2, h2, by decide⟩
      · exact ⟨4, h2, by decide⟩
    obtain ⟨d, hd1, hd2⟩ := hd
    have hbk : bK d ≤ 2560 := by
      have : d = 0 ∨ d = 1 ∨ d = 2 ∨ d = 3 ∨ d = 4 := by omega
      rcases this with rfl | rfl | rfl | rfl | rfl <;> decide
    refine TQ.bind (TQ.eq (fun m => by rw [hd1]) (l1SomeK_tq d (by omega) z.2 (0 + 1) hz.1 (by omega))) (fun f hf => ?_)
    have w1 := hf.1.w
    refine TQ.bind (l1Dress2_tq _ f.1 f.2 _ (Nat.le_refl _) hf.2 (by omega) hf.1.fit (by omega)) (fun g hg => ?_)
    have w2 := hg.2.1
    refine TQ.bind (l1Mutate_tq _ g.1 g.2 _ (Nat.le_refl _) hg.1 (by omega) hg.2.2.1 (by omega)) (fun p hp => ?_)
    have w3 := hp.2.1
    refine TQ.bind (l1Mutate_tq _ p.1 p.2 _ (Nat.le_refl _) hp.1 (by omega) hp.2.2 (by omega)) (fun q hq => TQ.val ⟨hq.2.2, by have := hq.2.1; omega⟩)
  exact TQ.bind key (fun f hf => TQ.val hf)
theorem DrawText_tq (code : List Int) (h : ∀ x ∈ code, 0 ≤ x ∧ x < 256) : TQ (fun m => m_spec_DrawParseForm m code) (fun s => s.size ≤ 2 ^ 20) := by
  refine TQ.eq (fun m => by unfold m_spec_DrawParseForm; rfl) (TQ.bind (open_tq code h) (fun r hr => ?_))
  have hb : bK 3 = 640 := rfl
  refine TQ.bind (l1SomeK_tq 3 (by omega) r 0 hr (by omega)) (fun f hf => ?_)
  have w1 := hf.1.w
  refine TQ.bind (l1Dress2_tq _ f.1 f.2 _ (Nat.le_refl _) hf.2 (by omega) hf.1.fit (by omega)) (fun g hg => ?_)
  have w2 := hg.2.1
  have hok : g.1.isOk 40 = true := hg.2.2.2 40 (hf.1.ok 40 (by omega))
  have hl := tx_len g.1.w g.1 40 (Nat.le_refl _) hok
  refine TQ.ev (specText_tr (by omega) hok) (TQ.bind (l1Bend_tq g.2 _ _ _ hg.1 (by omega) (by rw [mkB_size]; omega) (by simp) (by
    intro x hx
    simp only [List.mem_cons, List.not_mem_nil, or_false] at hx
    rcases hx with h | h | h | h | h | h | h | h | h <;> rw [h] <;> decide)) (fun s hs => TQ.val ?_))
  rw [mkB_size] at hs
  show s.1.size ≤ 2 ^ 20
  omega
theorem FnFormText_law (a0 a1 : List Int) (o0 : ∀ x ∈ a0, 0 ≤ x ∧ x < 256) (o1 : ∀ x ∈ a1, 0 ≤ x ∧ x < 256) : TQ (fun m => m_laws_FnFormText m a0 a1) (fun r => r = true) := by
  refine TQ.eq (fun m => by unfold m_laws_FnFormText; rfl) ?_
  have j1t : TQ (fun m => m_laws_FnFormText_j1 m a0 a1 true) (fun r => r = true) := TQ.step (fun m => by rw [m_laws_FnFormText_j1, cond_true]) (TQ.val rfl)
  refine TQ.cond (fun _ => j1t) (fun _ => ?_)
  cases hg : decide (1048576 < (a1.length : Int)) with
  | true => exact j1t
  | false =>
    refine TQ.step (fun m => by rw [m_laws_FnFormText_j1, cond_false]) (TQ.bind (DrawForm_tq a0 o0) (fun f hf => ?_))
    obtain ⟨f1, f2⟩ := hf
    have hl := fmt_len f
    have hp := implParse_tr (fmt f) (by omega)
    rw [pf_fmt] at hp
    refine TQ.ev (implFormat_tr f f1 (by omega)) (TQ.ev hp (TQ.ev (implFormValid_tr f f1) (TQ.ev (specFormat_tr f f1 (by omega)) ?_)))
    refine TQ.eq (fun m => by rw [decide_eq_false (show ¬ mkB (fmt f) ≠ mkB (fmt f) by simp), cond_false]) (TQ.ev (specFormValid_tr f f1 (by omega)) ?_)
    refine TQ.eq (fun m => by rw [decide_eq_false (show ¬ f.valid ≠ f.valid by simp), cond_false]) ?_
    have h2 : (if f.valid = true then (f, true) else (F0, false)).2 = f.valid := by cases f.valid <;> rfl
    refine TQ.eq (fun m => by rw [decide_eq_false (show ¬ (if f.valid = true then (f, true) else (F0, false)).2 ≠ f.valid by simp [h2]), cond_false, h2]) ?_
    have rest : TQ (fun m => m_laws_FnFormText_j2 m a1) (fun r => r = true) := by
      refine TQ.step (fun m => by rw [m_laws_FnFormText_j2]) (TQ.bind (DrawText_tq a1 o1) (fun s hs => ?_))
      have hsl : s.data.toList.length ≤ 2 ^ 20 := by rw [← sz_list]; exact hs
      have i1 := implParse_tr _ hsl
      have i2 := specParse_tr _ hsl
      rw [mkB_of] at i1 i2
      have hv := pf_valid (l := s.data.toList)
      have hfit := pf_fit _ hsl
      generalize pf s.data.toList = q at i1 i2 hv hfit
      obtain ⟨g, ok⟩ := q
      have hs1 : Tr (fun m => m_impl_FormSame m g g) true := by have := implFormSame_tr g g; rwa [same_self] at this
      refine TQ.ev i1 (TQ.ev i2 (TQ.ev hs1 ?_))
      refine TQ.eq (fun m => by rw [Bool.not_true, cond_false, decide_eq_false (show ¬ ok ≠ ok by simp), cond_false]) ?_
      cases ok with
      | false =>
        refine TQ.step (fun m => by rw [m_laws_FnFormText_j3, Bool.not_false, cond_true]) (TQ.ev hs1 ?_)
        exact TQ.eq (fun m => by rw [cond_true, decide_eq_true rfl]) (TQ.step (fun m => by rw [m_laws_FnFormText_j4]) (TQ.val rfl))
      | true =>
        have hv := hv rfl
        dsimp only at hv hfit
        have hl2 := fmt_len g
        have hp2 := implParse_tr (fmt g) (by omega)
        rw [pf_fmt, if_pos hv] at hp2
        refine TQ.step (fun m => by rw [m_laws_FnFormText_j3, Bool.not_true, cond_false]) (TQ.ev (implFormat_tr g hfit.1 (by omega)) (TQ.ev hp2 ?_))
        exact TQ.eq (fun m => by rw [cond_true]) (TQ.ev hs1 (TQ.val (v := true) (Q := fun r => r = true) rfl))
    cases hv : f.valid with
    | false => exact TQ.eq (fun m => by rw [cond_false]) rest
    | true =>
      have hs1 : Tr (fun m => m_impl_FormSame m f f) true := by have := implFormSame_tr f f; rwa [same_self] at this
      refine TQ.eq (fun m => by rw [cond_true, if_pos rfl]) (TQ.ev hs1 ?_)
      exact TQ.eq (fun m => by rw [Bool.not_true, cond_false]) rest
end Go.Abs
end
