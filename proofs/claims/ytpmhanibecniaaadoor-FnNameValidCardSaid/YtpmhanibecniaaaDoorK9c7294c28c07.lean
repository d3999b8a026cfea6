/- A part of the proof: what the functions that the law calls answer, as pure values. -/
import Derived.Test.YtpmhanibecniaaaDoorK009b0d696780
import Derived.Test.YtpmhanibecniaaaDoorK0c2fee0c4f9f
import Derived.Test.YtpmhanibecniaaaDoorK343b1103bcc9
set_option linter.unusedSimpArgs false
set_option linter.unusedVariables false
section
set_option linter.unusedVariables false
set_option linter.unusedSimpArgs false
set_option maxHeartbeats 4000000
namespace Go.Abs
open Go.Lib (itoa join joinTail decDigits)
theorem wrd_app : ∀ {w y : List UInt8}, (∀ c ∈ w, dlm c = false) → (∀ c, y.head? = some c → dlm c = true) → wrd (w ++ y) = w ∧ rst (w ++ y) = y
  | [], y, _, hy => by
    rw [List.nil_append]
    cases y with
    | nil => exact ⟨rfl, rfl⟩
    | cons c r =>
      have := hy c rfl
      rw [wrd_cons, rst_cons, this]; exact ⟨rfl, rfl⟩
  | c :: w, y, hw, hy => by
    obtain ⟨h1, h2⟩ := wrd_app (fun x hx => hw x (List.mem_cons_of_mem _ hx)) hy
    rw [List.cons_append, wrd_cons, rst_cons, hw c (List.mem_cons_self ..), h1, h2]; exact ⟨rfl, rfl⟩
theorem bef_app {c : UInt8} : ∀ {w y : List UInt8}, (∀ x ∈ w, x ≠ c) → bef c (w ++ c :: y) = w ∧ aft c (w ++ c :: y) = c :: y
  | [], y, _ => by rw [List.nil_append, bef_cons, aft_cons, if_pos rfl, if_pos rfl]; exact ⟨rfl, rfl⟩
  | x :: w, y, h => by
    obtain ⟨h1, h2⟩ := bef_app (fun z hz => h z (List.mem_cons_of_mem _ hz)) (y := y)
    have hx := h x (List.mem_cons_self ..)
    rw [List.cons_append, bef_cons, aft_cons, if_neg hx, if_neg hx, h1, h2]; exact ⟨rfl, rfl⟩
theorem cutAt_no {c : UInt8} : ∀ {w : List UInt8}, (∀ x ∈ w, x ≠ c) → cutAt c w = [w]
  | [], _ => rfl
  | x :: w, h => by rw [cutAt, if_neg (h x (List.mem_cons_self ..)), cutAt_no (fun z hz => h z (List.mem_cons_of_mem _ hz))]
theorem cutAt_app {c : UInt8} : ∀ {w y : List UInt8}, (∀ x ∈ w, x ≠ c) → cutAt c (w ++ c :: y) = w :: cutAt c y
  | [], y, _ => by rw [List.nil_append, cutAt, if_pos rfl]
  | x :: w, y, h => by
    rw [List.cons_append, cutAt, if_neg (h x (List.mem_cons_self ..)), cutAt_app (fun z hz => h z (List.mem_cons_of_mem _ hz))]
theorem cutAt_tail {c : UInt8} : ∀ (x : List UInt8) (xs : List (List UInt8)), (∀ z ∈ x, z ≠ c) → (∀ w ∈ xs, ∀ z ∈ w, z ≠ c) → cutAt c (x ++ joinTail [c] xs) = x :: xs
  | x, [], h, _ => by
    have : joinTail [c] [] = [] := rfl
    rw [this, List.append_nil, cutAt_no h]
  | x, y :: r, h, hs => by
    rw [jt_cons, List.append_assoc, List.singleton_append, cutAt_app h, cutAt_tail y r (hs y (List.mem_cons_self ..)) (fun w hw => hs w (List.mem_cons_of_mem _ hw))]
theorem join_tail (x : List UInt8) (xs : List (List UInt8)) (sep : List UInt8) : join (x :: xs) sep = x ++ joinTail sep xs := Lib.join_cons x xs sep
theorem dec_dig : ∀ (n : Nat) (c : UInt8), c ∈ decDigits n → 48 ≤ c.toNat ∧ c.toNat ≤ 57 := by
  intro n
  induction n using Nat.strongRecOn with
  | _ n ih =>
    intro c hc
    by_cases h : n < 10
    · rw [Lib.decDigits_one h, List.mem_singleton] at hc
      subst hc; rw [dig_nat h]; omega
    · rw [decDigits, dif_neg h, List.mem_append, List.mem_singleton] at hc
      rcases hc with hc | rfl
      · exact ih (n / 10) (by omega) c hc
      · rw [dig_nat (by omega)]; omega
theorem dig_dlm {c : UInt8} (h : 48 ≤ c.toNat ∧ c.toNat ≤ 57) : dlm c = false ∧ c ≠ 44 ∧ c ≠ 125 ∧ c ≠ 32 ∧ c ≠ 40 ∧ c ≠ 41 := by
  have hn : ∀ k : UInt8, (k.toNat < 48 ∨ 57 < k.toNat) → c ≠ k := fun k hk e => by subst e; omega
  have h1 := hn 32 (by decide); have h2 := hn 40 (by decide); have h3 := hn 41 (by decide); have h4 := hn 123 (by decide); have h5 := hn 125 (by decide); have h6 := hn 44 (by decide)
  refine ⟨?_, h6, h5, h1, h2, h3⟩
  unfold dlm
  simp [h1, h2, h3, h4, h5]
theorem letter_dlm {c : UInt8} {b : Bool} (h : letterB (c.toNat : Int) b = true) : dlm c = false := by
  rw [Bool.eq_false_iff]
  intro hd
  unfold dlm at hd
  simp at hd
  rcases hd with rfl | rfl | rfl | rfl | rfl <;> (revert h; cases b <;> decide)
theorem nmF_dlm : ∀ (w : List UInt8) (k : Nat), nmF k w = true → ∀ c ∈ w, dlm c = false
  | [], _, _, c, hc => by simp at hc
  | x :: w, k, h, c, hc => by
    rw [nmF, Bool.and_eq_true] at h
    rcases List.mem_cons.1 hc with rfl | hc
    · exact letter_dlm h.1
    · exact nmF_dlm w (k + 1) h.2 c hc
theorem nmOk_dlm {w : List UInt8} (h : nmOk (mkB w) = true) : ∀ c ∈ w, dlm c = false := by
  unfold nmOk at h
  simp only [Bool.or_eq_true, decide_eq_true_eq, Bool.and_eq_true] at h
  rcases h with h | h | ⟨h, _⟩
  · obtain rfl := mkB_inj (b := [46, 46, 46]) h; decide
  · obtain rfl := mkB_inj (b := [95]) h; decide
  · rw [mkB_list] at h; exact nmF_dlm w 0 h
theorem nmOk_num {w : List UInt8} (h : nmOk (mkB w) = true) : numOf w = none := by
  cases hn : numOf w with
  | none => rfl
  | some n =>
    obtain ⟨_, rfl⟩ := numOf_some.1 hn
    cases hd : decDigits n with
    | nil => exact absurd hd (decD_ne n)
    | cons c r =>
      have := dec_dig n c (by rw [hd]; exact List.mem_cons_self ..)
      rw [hd, nmOk_dig (.inr this)] at h; cases h
theorem numsOf_itoa : ∀ (l : List Int), (∀ x ∈ l, 1 ≤ x ∧ x ≤ 99) → numsOf (l.map itoa) = some l
  | [], _ => rfl
  | x :: l, h => by
    have hx := h x (List.mem_cons_self ..)
    obtain ⟨k, rfl⟩ := Int.eq_ofNat_of_zero_le (show (0 : Int) ≤ x by omega)
    rw [List.map_cons, numsOf, itoa_nat, numOf_some.2 ⟨by omega, rfl⟩, numsOf_itoa l (fun y hy => h y (List.mem_cons_of_mem _ hy))]
theorem itoa_dig {x : Int} (h : 0 ≤ x) : ∀ c ∈ itoa x, 48 ≤ c.toNat ∧ c.toNat ≤ 57 := by
  obtain ⟨k, rfl⟩ := Int.eq_ofNat_of_zero_le h
  rw [itoa_nat]; exact dec_dig k
theorem okH_dlm {y : List UInt8} (h : okH y) : ∀ c, y.head? = some c → dlm c = true := by
  intro c hc
  rcases h with rfl | h | h | h
  · cases hc
  all_goals (rw [h] at hc; cases hc; rfl)
theorem okH_no {y : List UInt8} (h : okH y) : y.head? ≠ some 123 ∧ y.head? ≠ some 125 := by
  rcases h with rfl | h | h | h
  · exact ⟨by simp, by simp⟩
  all_goals (rw [h]; exact ⟨by decide, by decide⟩)
theorem rdAtom_num {n : Int} (h0 : 0 ≤ n) (h : n ≤ 999) {y : List UInt8} (hy : okH y) : rdAtom (itoa n ++ y) = some (fNum n, y) := by
  obtain ⟨k, rfl⟩ := Int.eq_ofNat_of_zero_le h0
  rw [itoa_nat]
  obtain ⟨h1, h2⟩ := wrd_app (fun c hc => (dig_dlm (dec_dig k c hc)).1) (okH_dlm hy)
  have h3 := okH_no hy
  unfold rdAtom
  rw [h1, h2, numOf_some.2 ⟨by omega, rfl⟩, decide_eq_false h3.2, cond_false]
  dsimp only
  rw [decide_eq_false h3.1, cond_false]
theorem rdAtom_name {w : List UInt8} (hw : nmOk (mkB w) = true) {sc : List Int} (hs : scOk sc = true) {y : List UInt8} (hy : okH y) : rdAtom (w ++ (scTx sc ++ y)) = some (fName w sc, y) := by
  have h3 := okH_no hy
  have hn := nmOk_num hw
  cases sc with
  | nil =>
    have e : scTx [] = [] := rfl
    rw [e, List.nil_append]
    obtain ⟨h1, h2⟩ := wrd_app (nmOk_dlm hw) (okH_dlm hy)
    unfold rdAtom
    rw [h1, h2, hn, hw, decide_eq_false h3.2, decide_eq_false h3.1]; rfl
  | cons x l =>
    have e : scTx (x :: l) ++ y = 123 :: (join ((x :: l).map itoa) [44] ++ 125 :: y) := by
      unfold scTx
      rw [decide_eq_false (by simp), cond_false, List.append_assoc, List.append_assoc]; rfl
    have hall := (scOk_all hs).1
    have hj : ∀ z ∈ (x :: l).map itoa, ∀ c ∈ z, 48 ≤ c.toNat ∧ c.toNat ≤ 57 := by
      intro z hz c hc
      obtain ⟨v, hv, rfl⟩ := List.mem_map.1 hz
      exact itoa_dig (by have := hall v hv; omega) c hc
    have hcut : cutAt 44 (join ((x :: l).map itoa) [44]) = (x :: l).map itoa := by
      rw [List.map_cons, join_tail]
      exact cutAt_tail _ _ (fun z hz => (dig_dlm (hj _ (List.mem_cons_self ..) z hz)).2.1) (fun w hw z hz => (dig_dlm (hj w (List.mem_cons_of_mem _ hw) z hz)).2.1)
    have hno : ∀ z ∈ join ((x :: l).map itoa) [44], z ≠ 125 := by
      have key : ∀ xs : List (List UInt8), (∀ w ∈ xs, ∀ c ∈ w, 48 ≤ c.toNat ∧ c.toNat ≤ 57) → ∀ z ∈ joinTail [44] xs, z ≠ 125 := by
        intro xs
        induction xs with
        | nil => intro _ z hz; simp [joinTail] at hz
        | cons v r ih =>
          intro h z hz
          rw [jt_cons, List.mem_append, List.mem_append] at hz
          rcases hz with (hz | hz) | hz
          · rw [List.mem_singleton] at hz; subst hz; decide
          · exact (dig_dlm (h v (List.mem_cons_self ..) z hz)).2.2.1
          · exact ih (fun w hw => h w (List.mem_cons_of_mem _ hw)) z hz
      rw [List.map_cons, join_tail]
      intro z hz
      rcases List.mem_append.1 hz with hz | hz
      · exact (dig_dlm (hj _ (List.mem_cons_self ..) z hz)).2.2.1
      · exact key _ (fun w hw => hj w (List.mem_cons_of_mem _ hw)) z hz
    rw [e]
    obtain ⟨h1, h2⟩ := wrd_app (y := 123 :: (join ((x :: l).map itoa) [44] ++ 125 :: y)) (nmOk_dlm hw) (fun c hc => by cases hc; rfl)
    obtain ⟨h4, h5⟩ := bef_app (y := y) hno
    unfold rdAtom
    rw [h1, h2, hn, hw]
    have hsets : rdSets (123 :: (join ((x :: l).map itoa) [44] ++ 125 :: y) : List UInt8).tail = some (x :: l, y) := by
      unfold rdSets
      rw [List.tail_cons, h5, h4]
      dsimp only
      rw [hcut, numsOf_itoa _ hall]
      dsimp only
      rw [hs]; rfl
    rw [hsets]
    rfl
def gB (b : Nat) (c : UInt8) : List UInt8 := c :: bif decide (c = 32) || (decide (c = 40) || decide (c = 41)) then List.replicate b 32 else []
def txb (b : Nat) (f : Form) : List UInt8 := f.tx.flatMap (gB b)
theorem gB_same {b : Nat} : ∀ {w : List UInt8}, (∀ c ∈ w, c ≠ 32 ∧ c ≠ 40 ∧ c ≠ 41) → w.flatMap (gB b) = w
  | [], _ => rfl
  | c :: w, h => by
    obtain ⟨h1, h2, h3⟩ := h c (List.mem_cons_self ..)
    rw [List.flatMap_cons, gB_same (fun x hx => h x (List.mem_cons_of_mem _ hx)), gB, decide_eq_false h1, decide_eq_false h2, decide_eq_false h3]; rfl
theorem skp_rep (b : Nat) (s : List UInt8) : skp (List.replicate b 32 ++ s) = skp s := by
  induction b with
  | zero => rfl
  | succ b ih => rw [List.replicate_succ, List.cons_append, skp_cons, if_pos rfl, ih]
theorem rl_skp (f d : Nat) (s : List UInt8) (acc : List Form) : rl f d (skp s) acc = rl f d s acc := by
  cases f with
  | zero => rw [rl, rl]
  | succ f => rw [rl, rl, skp_idem]
theorem rl_rep (f d b : Nat) (s : List UInt8) (acc : List Form) : rl f d (List.replicate b 32 ++ s) acc = rl f d s acc := by
  rw [← rl_skp, skp_rep, rl_skp]
def ktb (b : Nat) : List Form → List UInt8
  | [] => []
  | k :: r => 32 :: (List.replicate b 32 ++ (txb b k ++ ktb b r))
theorem gB_join (b : Nat) (ks : List Form) : (joinTail [32] (ks.map Form.tx)).flatMap (gB b) = ktb b ks := by
  induction ks with
  | nil => rfl
  | cons k r ih =>
    rw [List.map_cons, jt_cons, List.flatMap_append, List.flatMap_append, ih, ktb]
    have : ([32] : List UInt8).flatMap (gB b) = 32 :: List.replicate b 32 := by simp [gB]
    rw [this, List.cons_append, List.cons_append, List.append_assoc]; rfl
def trl (b : Nat) (f : Form) : List UInt8 := bif decide (f.kind = 3) then List.replicate b 32 else []
theorem okH_kt (b : Nat) (ks : List Form) (z : List UInt8) : okH (ktb b ks ++ 41 :: z) := by
  cases ks with
  | nil => exact .inr (.inr (.inr rfl))
  | cons k r => exact .inr (.inl rfl)
theorem isOk_cases {f : Form} {d : Nat} (h : f.isOk d = true) : d ≠ 0 ∧ ((∃ w sc, f = fName w sc ∧ nmOk (mkB w) = true ∧ scOk sc = true) ∨ (∃ n, f = fNum n ∧ 0 ≤ n ∧ n ≤ 999) ∨ (∃ ks, f = fList ks ∧ alls (fun x => x.isOk (d - 1)) ks = true)) := by
  obtain ⟨kd, nm, n, sc, ks⟩ := f
  rw [Form.isOk, Form.isOks_eq] at h
  by_cases hd : d = 0
  · rw [decide_eq_true hd] at h; cases h
  refine ⟨hd, ?_⟩
  rw [decide_eq_false hd, cond_false] at h
  by_cases h1 : kd = 1
  · rw [decide_eq_true h1, cond_true] at h
    simp only [Bool.and_eq_true, decide_eq_true_eq] at h
    obtain ⟨g1, g2, g3, g4⟩ := h
    have : ks = [] := List.eq_nil_of_length_eq_zero (by omega)
    subst h1; subst g2; subst this
    exact .inl ⟨nm.data.toList, sc, by rw [fName, mkB_of], by rw [mkB_of]; exact g1, g3⟩
  · rw [decide_eq_false h1, cond_false] at h
    by_cases h2 : kd = 2
    · rw [decide_eq_true h2, cond_true] at h
      simp only [Bool.and_eq_true, decide_eq_true_eq] at h
      obtain ⟨g1, ⟨g2, g3⟩, g4, g5⟩ := h
      have e1 : sc = [] := List.eq_nil_of_length_eq_zero (by omega)
      have e2 : ks = [] := List.eq_nil_of_length_eq_zero (by omega)
      subst h2; subst e1; subst e2; subst g1
      exact .inr (.inl ⟨n, rfl, g2, g3⟩)
    · rw [decide_eq_false h2, cond_false] at h
      simp only [Bool.and_eq_true, decide_eq_true_eq] at h
      obtain ⟨g1, g2, g3, g4, g5⟩ := h
      have e1 : sc = [] := List.eq_nil_of_length_eq_zero (by omega)
      subst g1; subst g2; subst g3; subst e1
      exact .inr (.inr ⟨ks, rfl, g5⟩)
theorem tx_name (w : List UInt8) (sc : List Int) : (fName w sc).tx = w ++ scTx sc := by
  rw [Form.tx_eq]
  show (mkB w).data.toList ++ scTx sc = _
  rw [mkB_list]
theorem tx_num (n : Int) : (fNum n).tx = itoa n := by rw [Form.tx_eq]; rfl
theorem tx_list (ks : List Form) : (fList ks).tx = [40] ++ join (ks.map Form.tx) [32] ++ [41] := by rw [Form.tx_eq]; rfl
theorem dlm_ne {c : UInt8} (h : dlm c = false) : c ≠ 32 ∧ c ≠ 40 ∧ c ≠ 41 := by
  unfold dlm at h
  simp at h
  exact ⟨h.1, h.2.1, h.2.2.1⟩
theorem scTx_no {sc : List Int} (hs : scOk sc = true) : ∀ c ∈ scTx sc, c ≠ 32 ∧ c ≠ 40 ∧ c ≠ 41 := by
  intro c hc
  unfold scTx at hc
  cases h0 : decide (sc.length = 0) with
  | true => rw [h0] at hc; simp at hc
  | false =>
    rw [h0, cond_false, List.mem_append, List.mem_append, List.mem_singleton, List.mem_singleton] at hc
    rcases hc with (rfl | hc) | rfl
    · decide
    · cases sc with
      | nil => simp at h0
      | cons x l =>
        have hall := (scOk_all hs).1
        have key : ∀ xs : List (List UInt8), (∀ w ∈ xs, ∀ c ∈ w, 48 ≤ c.toNat ∧ c.toNat ≤ 57) → ∀ z ∈ joinTail [44] xs, z ≠ 32 ∧ z ≠ 40 ∧ z ≠ 41 := by
          intro xs
          induction xs with
          | nil => intro _ z hz; simp [joinTail] at hz
          | cons v r ih =>
            intro h z hz
            rw [jt_cons, List.mem_append, List.mem_append] at hz
            rcases hz with (hz | hz) | hz
            · rw [List.mem_singleton] at hz; subst hz; decide
            · exact (dig_dlm (h v (List.mem_cons_self ..) z hz)).2.2.2
            · exact ih (fun w hw => h w (List.mem_cons_of_mem _ hw)) z hz
        rw [List.map_cons, join_tail, List.mem_append] at hc
        rcases hc with hc | hc
        · exact (dig_dlm (itoa_dig (by have := hall x (List.mem_cons_self ..); omega) c hc)).2.2.2
        · refine key _ ?_ c hc
          intro w hw z hz
          obtain ⟨v, hv, rfl⟩ := List.mem_map.1 hw
          exact itoa_dig (by have := hall v (List.mem_cons_of_mem _ hv); omega) z hz
    · decide
theorem txb_name (b : Nat) {w : List UInt8} (hw : nmOk (mkB w) = true) {sc : List Int} (hs : scOk sc = true) : txb b (fName w sc) = w ++ scTx sc := by
  unfold txb
  rw [tx_name]
  refine gB_same (fun c hc => ?_)
  rcases List.mem_append.1 hc with hc | hc
  · exact dlm_ne (nmOk_dlm hw c hc)
  · exact scTx_no hs c hc
theorem txb_num (b : Nat) {n : Int} (h : 0 ≤ n) : txb b (fNum n) = itoa n := by
  unfold txb
  rw [tx_num]
  exact gB_same (fun c hc => (dig_dlm (itoa_dig h c hc)).2.2.2)
theorem txb_list (b : Nat) (ks : List Form) : txb b (fList ks) = 40 :: (List.replicate b 32 ++ ((match ks with | [] => [] | k :: r => txb b k ++ ktb b r) ++ 41 :: List.replicate b 32)) := by
  unfold txb
  rw [tx_list, List.flatMap_append, List.flatMap_append]
  have e1 : ([40] : List UInt8).flatMap (gB b) = 40 :: List.replicate b 32 := by simp [gB]
  have e2 : ([41] : List UInt8).flatMap (gB b) = 41 :: List.replicate b 32 := by simp [gB]
  rw [e1, e2]
  cases ks with
  | nil =>
    show (40 :: List.replicate b 32 ++ ((join [] [32]).flatMap (gB b))) ++ (41 :: List.replicate b 32) = _
    rw [Lib.join_nil]; simp
  | cons k r =>
    rw [List.map_cons, join_tail, List.flatMap_append, gB_join]
    simp [txb]
theorem tx_head {f : Form} {d : Nat} (h : f.isOk d = true) (b : Nat) : ∃ c r, txb b f = c :: r ∧ c ≠ 32 ∧ c ≠ 41 := by
  obtain ⟨_, ⟨w, sc, rfl, h1, h2⟩ | ⟨n, rfl, h1, h2⟩ | ⟨ks, rfl, h1⟩⟩ := isOk_cases h
  · rw [txb_name b h1 h2]
    cases w with
    | nil => rw [nmOk_nil] at h1; cases h1
    | cons c r =>
      have := dlm_ne (nmOk_dlm h1 c (List.mem_cons_self ..))
      exact ⟨c, _, rfl, this.1, this.2.2⟩
  · rw [txb_num b h1]
    obtain ⟨k, rfl⟩ := Int.eq_ofNat_of_zero_le h1
    rw [itoa_nat]
    cases hd : decDigits k with
    | nil => exact absurd hd (decD_ne k)
    | cons c r =>
      have := (dig_dlm (dec_dig k c (by rw [hd]; exact List.mem_cons_self ..))).2.2.2
      exact ⟨c, r, rfl, this.1, this.2.2⟩
  · rw [txb_list]; exact ⟨40, _, rfl, by decide, by decide⟩
theorem rl_trl (F d b : Nat) (f : Form) (y : List UInt8) (acc : List Form) : rl F d (trl b f ++ y) acc = rl F d y acc := by
  unfold trl
  cases decide (f.kind = 3) with
  | true => exact rl_rep F d b y acc
  | false => rfl
def Back (b : Nat) (k : Form) (d : Nat) : Prop := ∀ (y : List UInt8), okH y → ∀ F, 2 * (txb b k).length ≤ F → rd F d (txb b k ++ y) = some (k, trl b k ++ y)
theorem rl_one {b d : Nat} {k : Form} (hk : k.isOk (d - 1) = true) (hb : Back b k (d - 1)) {y : List UInt8} (hy : okH y) (F : Nat) (hF : 2 * (txb b k).length ≤ F) (acc : List Form) : rl (F + 1) d (txb b k ++ y) acc = rl F d y (acc ++ [k]) := by
  obtain ⟨c, r, h1, h2, h3⟩ := tx_head hk b
  have hr := hb y hy F hF
  rw [h1, List.cons_append] at hr ⊢
  rw [rl, skp_cons, if_neg h2]
  dsimp only
  rw [decide_eq_false h3, cond_false, hr]
  dsimp only
  exact rl_trl F d b k y _
theorem rl_kids {b d : Nat} : ∀ (ks : List Form), (∀ k ∈ ks, k.isOk (d - 1) = true ∧ Back b k (d - 1)) → ∀ (z : List UInt8) (F : Nat) (acc : List Form), 2 * (ktb b ks).length + 1 ≤ F → rl F d (ktb b ks ++ 41 :: z) acc = some (acc ++ ks, z)
  | [], _, z, F, acc, hF => by
    obtain ⟨G, rfl⟩ : ∃ G, F = G + 1 := ⟨F - 1, by simp [ktb] at hF; omega⟩
    rw [ktb, List.nil_append, rl, skp_cons, if_neg (by decide)]
    dsimp only
    rw [decide_eq_true rfl, cond_true, List.append_nil]
  | k :: r, h, z, F, acc, hF => by
    obtain ⟨h1, h2⟩ := h k (List.mem_cons_self ..)
    rw [ktb] at hF ⊢
    rw [List.length_cons, List.length_append, List.length_append] at hF
    obtain ⟨G, rfl⟩ : ∃ G, F = G + 1 := ⟨F - 1, by omega⟩
    rw [List.cons_append, List.append_assoc, List.append_assoc, ← rl_skp, skp_cons, if_pos rfl, rl_skp, rl_rep, rl_one h1 h2 (okH_kt b r z) G (by omega), rl_kids r (fun x hx => h x (List.mem_cons_of_mem _ hx)) z G _ (by omega), List.append_assoc]
    rfl
theorem rd_back (b : Nat) : ∀ (n : Nat) (f : Form) (d : Nat), f.w ≤ n → f.isOk d = true → Back b f d := by
  intro n
  induction n with
  | zero => intro f d h; have := w_pos' f; omega
  | succ n ih =>
    intro f d hn h y hy F hF
    obtain ⟨c, r, h1, h2, h3⟩ := tx_head h b
    obtain ⟨hd, hc⟩ := isOk_cases h
    obtain ⟨G, rfl⟩ : ∃ G, F = G + 1 := ⟨F - 1, by rw [h1, List.length_cons] at hF; omega⟩
    have hs : skp (txb b f ++ y) = txb b f ++ y := skp_id (by rw [h1]; simpa using h2)
    rw [rd, hs]
    have hcons : txb b f ++ y = c :: (r ++ y) := by rw [h1]; rfl
    rcases hc with ⟨w, sc, rfl, g1, g2⟩ | ⟨k, rfl, g1, g2⟩ | ⟨ks, rfl, g1⟩
    · have ht := txb_name b g1 g2
      have hat := rdAtom_name g1 g2 hy
      rw [← List.append_assoc, ← ht, hcons] at hat
      rw [hcons]
      dsimp only
      have h40 : c ≠ 40 := by
        cases w with
        | nil => rw [nmOk_nil] at g1; cases g1
        | cons x w =>
          rw [ht, List.cons_append] at h1
          have := (dlm_ne (nmOk_dlm g1 x (List.mem_cons_self ..))).2.1
          rw [(List.cons.inj h1).1] at this; exact this
      rw [decide_eq_false hd, cond_false, decide_eq_false h40, cond_false, hat]
      rfl
    · have ht := txb_num b g1
      have hat := rdAtom_num g1 g2 hy
      rw [← ht, hcons] at hat
      rw [hcons]
      dsimp only
      have h40 : c ≠ 40 := by
        rw [ht] at h1
        exact (dig_dlm (itoa_dig g1 c (by rw [h1]; exact List.mem_cons_self ..))).2.2.2.2.1
      rw [decide_eq_false hd, cond_false, decide_eq_false h40, cond_false, hat]
      rfl
    · have ht := txb_list b ks
      have hkid : ∀ k ∈ ks, k.isOk (d - 1) = true ∧ Back b k (d - 1) := fun k hk => by
        have := alls_iff.1 g1 k hk
        exact ⟨this, ih k (d - 1) (by have := Form.ws_mem hk; rw [Form.w] at hn; omega) this⟩
      rw [ht, List.length_cons, List.length_append, List.length_append, List.length_cons] at hF
      rw [ht, List.cons_append]
      dsimp only
      rw [decide_eq_false hd, cond_false, decide_eq_true rfl, cond_true]
      have key : rl G d ((List.replicate b 32 ++ ((match ks with | [] => [] | k :: r => txb b k ++ ktb b r) ++ 41 :: List.replicate b 32)) ++ y) [] = some (ks, List.replicate b 32 ++ y) := by
        rw [List.append_assoc, rl_rep, List.append_assoc, List.cons_append]
        cases ks with
        | nil =>
          have := rl_kids (b := b) (d := d) [] (by simp) (List.replicate b 32 ++ y) G [] (by simp [ktb]; omega)
          rw [ktb] at this; exact this
        | cons k r =>
          dsimp only at hF ⊢
          rw [List.length_append] at hF
          obtain ⟨H, rfl⟩ : ∃ H, G = H + 1 := ⟨G - 1, by omega⟩
          rw [List.append_assoc, rl_one (hkid k (List.mem_cons_self ..)).1 (hkid k (List.mem_cons_self ..)).2 (okH_kt b r _) H (by omega), rl_kids r (fun x hx => hkid x (List.mem_cons_of_mem _ hx)) _ H _ (by omega)]
          rfl
      rw [key]
      rfl
theorem pf_back {f : Form} (hv : f.valid = true) (b a : Nat) : pf (List.replicate a 32 ++ txb b f) = (f, true) := by
  unfold Form.valid at hv
  rw [Bool.and_eq_true] at hv
  have h := rd_back b f.w f 40 (Nat.le_refl _) hv.1 [] (.inl rfl) (2 * (List.replicate a 32 ++ txb b f).length + 2) (by rw [List.length_append]; omega)
  rw [List.append_nil] at h
  have h2 : rd (2 * (List.replicate a 32 ++ txb b f).length + 2) 40 (List.replicate a 32 ++ txb b f) = rd (2 * (List.replicate a 32 ++ txb b f).length + 2) 40 (txb b f) := by
    rw [rd, rd, skp_rep]
  unfold pf
  rw [h2, h]
  dsimp only
  have h3 : skp (trl b f ++ []) = [] := by
    unfold trl
    cases decide (f.kind = 3) with
    | true => rw [cond_true, skp_rep]; rfl
    | false => rfl
  rw [h3, decide_eq_true rfl, Bool.true_and, hv.2]; rfl
theorem txb_zero (f : Form) : txb 0 f = f.tx := by
  unfold txb
  have : ∀ l : List UInt8, l.flatMap (gB 0) = l := by
    intro l
    induction l with
    | nil => rfl
    | cons c l ih =>
      rw [List.flatMap_cons, ih, gB]
      cases decide (c = 32) || (decide (c = 40) || decide (c = 41)) <;> rfl
  exact this _
end Go.Abs
end
section
set_option linter.unusedVariables false
set_option linter.unusedSimpArgs false
set_option maxHeartbeats 4000000
namespace Go.Abs
structure DrK (d n : Nat) (f : Form) : Prop where
  w : f.w ≤ n
  fit : f.fit
  ok : ∀ dd, d + 1 ≤ dd → f.isOk dd = true
theorem DrK.mono {d d' n n' : Nat} {f : Form} (h : DrK d n f) (hd : d ≤ d') (hn : n ≤ n') : DrK d' n' f := ⟨by have := h.w; omega, h.fit, fun dd hdd => h.ok dd (by omega)⟩
theorem l1Bend_tq (o : l15Rd) (s : ByteArray) (bits : List ByteArray) (K : Int) (ho : OkRd o K) (hK : K ≤ 1000000000) (hs : s.size ≤ 2 ^ 30) (hb : bits ≠ []) (hbl : ∀ x ∈ bits, x.size ≤ 10) :
    TQ (fun m => m_spec_l1Bend m o s bits) (fun r => r.1.size ≤ s.size + 10) := by
  refine TQ.eq (fun m => by unfold m_spec_l1Bend; rfl) (TQ.cond (fun _ => ?_) (fun h0 => ?_))
  · exact TQ.step (fun m => by rw [m_spec_l1Bend_j1, cond_true]) (TQ.val (by show s.size ≤ s.size + 10; omega))
  · have hpos : 0 < s.size := by have := of_decide_eq_false h0; omega
    refine TQ.bind (pick_tq o 2 K ho (by omega)) (fun v hv => ?_)
    cases hd : decide (v.1 = 0) with
    | true => exact TQ.step (fun m => by rw [m_spec_l1Bend_j1, cond_true]) (TQ.val (by show s.size ≤ s.size + 10; omega))
    | false =>
      refine TQ.step (fun m => by rw [m_spec_l1Bend_j1, cond_false]) (TQ.bind (pick_tq _ _ (K + 1) hv.1.mk' (by omega)) (fun k hk => ?_))
      obtain ⟨k1, _, k2, _⟩ := hk
      obtain ⟨k2, k3⟩ := k2 (by omega)
      have b1 : Tr (fun _ : Nat => bsub s 0 k.1) (s.extract 0 k.1.toNat) := Tr.of fun _ => by
        unfold bsub
        rw [decide_eq_true (show (0 : Int) ≤ 0 by decide), decide_eq_true k2, decide_eq_true (by omega)]; rfl
      refine TQ.ev b1 (TQ.bind (of_tq _ _ (K + 1 + 1) k1 (by omega) (by cases bits with | nil => exact absurd rfl hb | cons _ _ => simp)) (fun w hw => ?_))
      have hwl := hbl w.1 hw.2
      have z1 : (s.extract 0 k.1.toNat).size ≤ s.size := by simp only [ByteArray.size_extract]; omega
      have b2 : Tr (fun _ : Nat => bcat (s.extract 0 k.1.toNat) w.1) (s.extract 0 k.1.toNat ++ w.1) := Tr.of fun _ => by
        unfold bcat; rw [decide_eq_true (by omega)]; rfl
      refine TQ.ev b2 (TQ.bind (pick_tq _ 2 (K + 1 + 1 + 1) hw.1 (by omega)) (fun p hp => ?_))
      obtain ⟨_, _, p2, _⟩ := hp
      obtain ⟨p2, p3⟩ := p2 (by decide)
      have b3 : Tr (fun _ : Nat => bsub s (w64 (k.1 + p.1)) (s.size : Int)) (s.extract (k.1 + p.1).toNat s.size) := Tr.of fun _ => by
        rw [w64_in (by omega)]
        unfold bsub
        rw [decide_eq_true (show (0 : Int) ≤ k.1 + p.1 by omega), decide_eq_true (show k.1 + p.1 ≤ (s.size : Int) by omega), decide_eq_true (Int.le_refl _)]; rfl
      have z2 : (s.extract 0 k.1.toNat ++ w.1).size = (s.extract 0 k.1.toNat).size + w.1.size := ByteArray.size_append ..
      have z3 : (s.extract (k.1 + p.1).toNat s.size).size ≤ s.size - k.1.toNat := by simp only [ByteArray.size_extract]; omega
      have z4 : (s.extract 0 k.1.toNat).size ≤ k.1.toNat := by simp only [ByteArray.size_extract]; omega
      refine TQ.ev b3 (TQ.ev (v := (s.extract 0 k.1.toNat ++ w.1) ++ s.extract (k.1 + p.1).toNat s.size) (Tr.of fun _ => by unfold bcat; rw [decide_eq_true (by omega)]; rfl) (TQ.val ?_))
      show ((s.extract 0 k.1.toNat ++ w.1) ++ s.extract (k.1 + p.1).toNat s.size).size ≤ s.size + 10
      rw [ByteArray.size_append]; omega
end Go.Abs
end
section
set_option linter.unusedVariables false
set_option linter.unusedSimpArgs false
set_option maxHeartbeats 4000000
namespace Go.Abs
theorem FnNameValid_law (a0 : List Int) (o0 : ∀ x ∈ a0, 0 ≤ x ∧ x < 256) : TQ (fun m => m_laws_FnNameValid m a0) (fun r => r = true) := by
  refine TQ.eq (fun m => by unfold m_laws_FnNameValid; rfl) (TQ.cond (fun _ => TQ.val rfl) (fun _ => ?_))
  have hdraw : TQ (fun m => m_spec_DrawNameValid m a0) (fun s => s.size ≤ 100) := by
    refine TQ.eq (fun m => by unfold m_spec_DrawNameValid; rfl) (TQ.bind (open_tq a0 o0) (fun r hr => TQ.bind (of_tq _ _ 0 hr (by decide) (by decide)) (fun w hw => ?_)))
    have hwl : w.1.size ≤ 20 := by
      have h2 := hw.2
      simp only [List.mem_cons, List.not_mem_nil, or_false] at h2
      rcases h2 with h2 | h2 | h2 | h2 | h2 | h2 | h2 | h2 <;> rw [h2] <;> decide
    refine TQ.bind (l1Bend_tq w.2 _ _ _ hw.1 (by decide) (by omega) (by simp) (by
      intro x hx
      simp only [List.mem_cons, List.not_mem_nil, or_false] at hx
      rcases hx with h | h | h | h | h | h <;> rw [h] <;> decide)) (fun s hs => TQ.val (by show s.1.size ≤ 100; omega))
  refine TQ.bind hdraw (fun s hs => ?_)
  have hsl : s.data.toList.length ≤ 2 ^ 20 := by rw [← sz_list]; omega
  have i1 := implParse_tr _ hsl
  rw [mkB_of] at i1
  refine TQ.ev (implNm_tr s (by omega)) (TQ.ev i1 (TQ.ev (specNm_tr s) ?_))
  refine TQ.eq (fun m => by rw [decide_eq_true rfl, cond_true]) ?_
  cases hn : nmOk s with
  | false => exact TQ.eq (fun m => by rw [Bool.not_false, cond_true]) (TQ.val rfl)
  | true =>
    have hv : (fName s.data.toList []).valid = true := by
      unfold Form.valid
      rw [isOk_nm (by decide), mkB_of, hn]; rfl
    have hb := pf_back hv 0 0
    rw [txb_zero, tx_name] at hb
    have e : List.replicate 0 32 ++ (s.data.toList ++ scTx []) = s.data.toList := by
      rw [show scTx [] = [] from rfl, List.append_nil]; rfl
    rw [e] at hb
    rw [hb]
    refine TQ.eq (fun m => by rw [Bool.not_true, cond_false, cond_true]) ?_
    refine TQ.eq (fun m => by rw [show decide ((fName s.data.toList []).kind = 1) = true from rfl, cond_true]) (TQ.val ?_)
    exact decide_eq_true (mkB_of s)
end Go.Abs
end
