/- A part of the proof: what the functions that the law calls answer, as pure values. -/
import Derived.Test.YtehdhaaopmihaaaGreatDoorK0ad147131039
import Derived.Test.YtehdhaaopmihaaaGreatDoorK2fa2763a6b98
import Derived.Test.YtehdhaaopmihaaaGreatDoorKdaf94b7ba384
import Derived.Test.YtehdhaaopmihaaaGreatDoorKe2376421ac80
set_option linter.unusedSimpArgs false
set_option linter.unusedVariables false
section
set_option linter.unusedVariables false
set_option linter.unusedSimpArgs false
set_option maxHeartbeats 4000000
namespace Go.Abs
def kidsOk (k : Int) (n : Int) : Bool :=
  bif (decide (k = 1) || (decide (k = 2) || (decide (k = 3) || decide (k = 4)))) then decide (n = 0)
  else bif decide (k = 5) then decide (n = 1) else bif decide (k = 6) then decide (1 ≤ n) else bif decide (k = 7) then decide (n = 3) else false
theorem l6Kids_tr (k n : Int) : Tr (fun m => m_spec_l6Kids m k n) (kidsOk k n) := by
  have j : ∀ b, b = (decide (k = 1) || (decide (k = 2) || (decide (k = 3) || decide (k = 4)))) → Tr (fun m => m_spec_l6Kids_j1 m k n b) (kidsOk k n) := by
    intro b hb
    refine Tr.step (fun m => by rw [m_spec_l6Kids_j1]) ?_
    unfold kidsOk
    rw [← hb]
    cases b with
    | true => exact Tr.tt rfl Tr.val
    | false =>
    refine Tr.ff rfl ?_
    rw [cond_false]
    cases decide (k = 5) with
    | true => exact Tr.tt rfl Tr.val
    | false =>
    refine Tr.ff rfl ?_
    rw [cond_false]
    cases decide (k = 6) with
    | true => exact Tr.tt rfl Tr.val
    | false =>
    refine Tr.ff rfl ?_
    rw [cond_false]
    cases decide (k = 7) with
    | true => exact Tr.tt rfl Tr.val
    | false => exact Tr.ff rfl Tr.val
  refine Tr.eq (fun m => by unfold m_spec_l6Kids; rfl) ?_
  cases h1 : decide (k = 1) with
  | true => exact Tr.tt rfl (j _ (by rw [h1]; rfl))
  | false =>
  refine Tr.ff rfl ?_
  cases h2 : decide (k = 2) with
  | true => exact Tr.tt rfl (j _ (by rw [h1, h2]; rfl))
  | false =>
  refine Tr.ff rfl ?_
  cases h3 : decide (k = 3) with
  | true => exact Tr.tt rfl (j _ (by rw [h1, h2, h3]; rfl))
  | false => exact Tr.ff rfl (j _ (by rw [h1, h2, h3]; rfl))
noncomputable def Core.fl4 (c : Core) : Bool := bif decide (c.kind = 5) then true else decide ((c.ids.length : Int) = 0)
noncomputable def Core.fl3 (c : Core) : Bool := (bif decide (c.kind = 4) then c.data.valid && noScs c.data else same c.data form0) && c.fl4
noncomputable def Core.fl2 (c : Core) : Bool := (bif decide (c.kind = 3) then decide (0 ≤ c.n) && decide (c.n ≤ 999) else decide (c.n = 0)) && c.fl3
noncomputable def Core.fl1 (c : Core) : Bool := (bif decide (c.kind = 2) then nmOk c.name else decide (c.name = e0)) && c.fl2
noncomputable def Core.fl (c : Core) : Bool := (bif decide (c.kind = 1) then decide (1 ≤ c.id) && decide (c.id ≤ 999) else decide (c.id = 0)) && c.fl1
theorem fl4_tr (c : Core) (b : Bool) : Tr (fun m => m_spec_l6Fields_j4 m c b) (!b && c.fl4) := by
  refine Tr.step (fun m => by rw [m_spec_l6Fields_j4]) ?_
  cases b with
  | true => exact Tr.tt rfl Tr.val
  | false =>
  refine Tr.ff rfl ?_
  unfold Core.fl4
  cases decide (c.kind = 5) with
  | true => exact Tr.tt rfl Tr.val
  | false => exact Tr.ff rfl Tr.val
theorem fl3_tr (c : Core) (hf : c.data.fit) (hb : c.data.w ≤ 2 ^ 36) : Tr (fun m => m_spec_l6Fields_j3 m c) c.fl3 := by
  refine Tr.step (fun m => by rw [m_spec_l6Fields_j3]) ?_
  unfold Core.fl3
  by_cases k4 : c.kind = 4
  · refine Tr.tt (decide_eq_true k4) (Tr.bind (specFormValid_tr _ hf hb) ?_)
    rw [decide_eq_true k4, cond_true]
    cases c.data.valid with
    | false => exact Tr.tt rfl (fl4_tr c true)
    | true =>
    refine Tr.ff rfl ?_
    have hs := stripSame_tr c.data hb
    obtain ⟨N, hN⟩ := hs
    have h2 : Tr (fun m => (m_spec_StripForm m c.data).bind fun v28 => (m_spec_FormSame m v28 c.data).bind fun v29 => bif !v29 then m_spec_l6Fields_j4 m c true else bif decide (c.kind ≠ 4) then (m_spec_FormSame m c.data (Form.mk 0 (⟨#[]⟩ : ByteArray) 0 ([] : List Int) ([] : List Form))).bind fun v32 => m_spec_l6Fields_j4 m c (!v32) else m_spec_l6Fields_j4 m c false) (true && noScs c.data && c.fl4) := by
      refine Tr.eq (G := fun m => ((m_spec_StripForm m c.data).bind fun v => m_spec_FormSame m v c.data).bind fun v29 => bif !v29 then m_spec_l6Fields_j4 m c true else bif decide (c.kind ≠ 4) then (m_spec_FormSame m c.data (Form.mk 0 (⟨#[]⟩ : ByteArray) 0 ([] : List Int) ([] : List Form))).bind fun v32 => m_spec_l6Fields_j4 m c (!v32) else m_spec_l6Fields_j4 m c false) (fun m => by rw [Option.bind_assoc]) (Tr.bind ⟨N, hN⟩ ?_)
      cases noScs c.data with
      | false => exact Tr.tt rfl (fl4_tr c true)
      | true => exact Tr.ff rfl (Tr.ff (decide_eq_false (fun h => h k4)) (by simpa using fl4_tr c false))
    exact h2
  · refine Tr.ff (decide_eq_false k4) (Tr.tt (decide_eq_true k4) (Tr.bind (specFormSame_tr _ _) ?_))
    rw [decide_eq_false k4, cond_false]
    simpa using fl4_tr c (!same c.data form0)
theorem fl2_tr (c : Core) (hf : c.data.fit) (hb : c.data.w ≤ 2 ^ 36) : Tr (fun m => m_spec_l6Fields_j2 m c) c.fl2 := by
  refine Tr.step (fun m => by rw [m_spec_l6Fields_j2]) ?_
  unfold Core.fl2
  by_cases k : c.kind = 3
  · refine Tr.tt (decide_eq_true k) ?_
    rw [decide_eq_true k, cond_true]
    by_cases h1 : c.n < 0
    · refine Tr.tt (decide_eq_true h1) ?_
      rw [decide_eq_false (show ¬ 0 ≤ c.n by omega)]; exact Tr.val
    refine Tr.ff (decide_eq_false h1) ?_
    rw [decide_eq_true (show 0 ≤ c.n by omega), Bool.true_and]
    by_cases h2 : 999 < c.n
    · refine Tr.tt (decide_eq_true h2) ?_
      rw [decide_eq_false (show ¬ c.n ≤ 999 by omega)]; exact Tr.val
    refine Tr.ff (decide_eq_false h2) ?_
    rw [decide_eq_true (show c.n ≤ 999 by omega), Bool.true_and]
    exact Tr.ff (decide_eq_false (fun h => h k)) (fl3_tr c hf hb)
  · refine Tr.ff (decide_eq_false k) (Tr.tt (decide_eq_true k) ?_)
    rw [decide_eq_false k, cond_false]
    by_cases h1 : c.n = 0
    · refine Tr.ff (decide_eq_false (fun h => h h1)) ?_
      rw [decide_eq_true h1, Bool.true_and]; exact fl3_tr c hf hb
    · refine Tr.tt (decide_eq_true h1) ?_
      rw [decide_eq_false h1]; exact Tr.val
theorem fl1_tr (c : Core) (hf : c.data.fit) (hb : c.data.w ≤ 2 ^ 36) : Tr (fun m => m_spec_l6Fields_j1 m c) c.fl1 := by
  refine Tr.step (fun m => by rw [m_spec_l6Fields_j1]) ?_
  unfold Core.fl1
  by_cases k : c.kind = 2
  · refine Tr.tt (decide_eq_true k) (Tr.bind (specNm_tr _) ?_)
    rw [decide_eq_true k, cond_true]
    cases nmOk c.name with
    | false => exact Tr.tt rfl Tr.val
    | true => exact Tr.ff rfl (Tr.ff (decide_eq_false (fun h => h k)) (by simpa using fl2_tr c hf hb))
  · refine Tr.ff (decide_eq_false k) (Tr.tt (decide_eq_true k) ?_)
    rw [decide_eq_false k, cond_false]
    by_cases h1 : c.name = e0
    · refine Tr.ff (decide_eq_false (fun h => h h1)) ?_
      rw [decide_eq_true h1, Bool.true_and]; exact fl2_tr c hf hb
    · refine Tr.tt (decide_eq_true h1) ?_
      rw [decide_eq_false h1]; exact Tr.val
theorem fl_tr (c : Core) (hf : c.data.fit) (hb : c.data.w ≤ 2 ^ 36) : Tr (fun m => m_spec_l6Fields m c) c.fl := by
  refine Tr.eq (fun m => by unfold m_spec_l6Fields; rfl) ?_
  unfold Core.fl
  by_cases k : c.kind = 1
  · refine Tr.tt (decide_eq_true k) ?_
    rw [decide_eq_true k, cond_true]
    by_cases h1 : c.id < 1
    · refine Tr.tt (decide_eq_true h1) ?_
      rw [decide_eq_false (show ¬ 1 ≤ c.id by omega)]; exact Tr.val
    refine Tr.ff (decide_eq_false h1) ?_
    rw [decide_eq_true (show 1 ≤ c.id by omega), Bool.true_and]
    by_cases h2 : 999 < c.id
    · refine Tr.tt (decide_eq_true h2) ?_
      rw [decide_eq_false (show ¬ c.id ≤ 999 by omega)]; exact Tr.val
    refine Tr.ff (decide_eq_false h2) ?_
    rw [decide_eq_true (show c.id ≤ 999 by omega), Bool.true_and]
    exact Tr.ff (decide_eq_false (fun h => h k)) (fl1_tr c hf hb)
  · refine Tr.ff (decide_eq_false k) (Tr.tt (decide_eq_true k) ?_)
    rw [decide_eq_false k, cond_false]
    by_cases h1 : c.id = 0
    · refine Tr.ff (decide_eq_false (fun h => h h1)) ?_
      rw [decide_eq_true h1, Bool.true_and]; exact fl1_tr c hf hb
    · refine Tr.tt (decide_eq_true h1) ?_
      rw [decide_eq_false h1]; exact Tr.val
theorem okF_eq (c : Core) (ar : List Int) : c.okF ar = (kidsOk c.kind (c.kids.length : Int) && (c.fl && ((bif decide (c.kind = 1) then hasB ar c.id else true) && idsOk ar c.ids))) := by
  have hid : ∀ ar, c.ids = [] → idsOk ar c.ids = true := fun ar h => by rw [h]; rfl
  have hl : decide ((c.ids.length : Int) = 0) = decide (c.ids = []) := by
    rw [Bool.eq_iff_iff, decide_eq_true_iff, decide_eq_true_iff]
    exact ⟨fun h => List.eq_nil_of_length_eq_zero (by omega), fun h => by rw [h]; rfl⟩
  unfold Core.okF kidsOk Core.fl Core.fl1 Core.fl2 Core.fl3 Core.fl4 lenI
  rw [hl]
  by_cases hn : c.ids = []
  · rw [hid ar hn]
    rw [decide_eq_true hn]
    by_cases k1 : c.kind = 1
    · simp only [k1, Int.reduceEq, decide_true, decide_false, cond_true, cond_false, Bool.or_true, Bool.true_or, Bool.or_false, Bool.and_true, Bool.true_and]
      generalize (decide (1 ≤ c.id) && decide (c.id ≤ 999)) = p1; generalize hasB ar c.id = p2; generalize decide (c.name = e0) = p3; generalize decide (c.n = 0) = p4; generalize same c.data form0 = p5; generalize decide ((c.kids.length : Int) = 0) = p6
      revert p1 p2 p3 p4 p5 p6; decide
    by_cases k2 : c.kind = 2
    · simp only [k2, Int.reduceEq, decide_true, decide_false, cond_true, cond_false, Bool.or_true, Bool.true_or, Bool.or_false, Bool.false_or, Bool.and_true, Bool.true_and]
      generalize nmOk c.name = p1; generalize decide (c.id = 0) = p3; generalize decide (c.n = 0) = p4; generalize same c.data form0 = p5; generalize decide ((c.kids.length : Int) = 0) = p6
      revert p1 p3 p4 p5 p6; decide
    by_cases k3 : c.kind = 3
    · simp only [k3, Int.reduceEq, decide_true, decide_false, cond_true, cond_false, Bool.or_true, Bool.true_or, Bool.or_false, Bool.false_or, Bool.and_true, Bool.true_and]
      generalize (decide (0 ≤ c.n) && decide (c.n ≤ 999)) = p1; generalize decide (c.id = 0) = p3; generalize decide (c.name = e0) = p4; generalize same c.data form0 = p5; generalize decide ((c.kids.length : Int) = 0) = p6
      revert p1 p3 p4 p5 p6; decide
    by_cases k4 : c.kind = 4
    · simp only [k4, Int.reduceEq, decide_true, decide_false, cond_true, cond_false, Bool.or_true, Bool.true_or, Bool.or_false, Bool.false_or, Bool.and_true, Bool.true_and]
      generalize (c.data.valid && noScs c.data) = p1; generalize decide (c.id = 0) = p3; generalize decide (c.name = e0) = p4; generalize decide (c.n = 0) = p5; generalize decide ((c.kids.length : Int) = 0) = p6
      revert p1 p3 p4 p5 p6; decide
    by_cases k5 : c.kind = 5
    · simp only [k5, Int.reduceEq, decide_true, decide_false, cond_true, cond_false, Bool.or_true, Bool.true_or, Bool.or_false, Bool.false_or, Bool.and_true, Bool.true_and]
      generalize decide (c.id = 0) = p3; generalize decide (c.name = e0) = p4; generalize decide (c.n = 0) = p5; generalize decide ((c.kids.length : Int) = 1) = p6; generalize same c.data form0 = p7
      revert p3 p4 p5 p6 p7; decide
    by_cases k6 : c.kind = 6
    · simp only [k6, Int.reduceEq, decide_true, decide_false, cond_true, cond_false, Bool.or_true, Bool.true_or, Bool.or_false, Bool.false_or, Bool.and_true, Bool.true_and]
      generalize decide (c.id = 0) = p3; generalize decide (c.name = e0) = p4; generalize decide (c.n = 0) = p5; generalize decide (1 ≤ (c.kids.length : Int)) = p6; generalize same c.data form0 = p7
      revert p3 p4 p5 p6 p7; decide
    by_cases k7 : c.kind = 7
    · simp only [k7, Int.reduceEq, decide_true, decide_false, cond_true, cond_false, Bool.or_true, Bool.true_or, Bool.or_false, Bool.false_or, Bool.and_true, Bool.true_and]
      generalize decide (c.id = 0) = p3; generalize decide (c.name = e0) = p4; generalize decide (c.n = 0) = p5; generalize decide ((c.kids.length : Int) = 3) = p6; generalize same c.data form0 = p7
      revert p3 p4 p5 p6 p7; decide
    simp only [k1, k2, k3, k4, k5, k6, k7, decide_false, cond_false, Bool.or_false, Bool.false_and]
  · rw [decide_eq_false hn]
    by_cases k5 : c.kind = 5
    · simp only [k5, Int.reduceEq, decide_true, decide_false, cond_true, cond_false, Bool.or_true, Bool.true_or, Bool.or_false, Bool.false_or, Bool.and_true, Bool.true_and]
      generalize decide (c.id = 0) = p3; generalize decide (c.name = e0) = p4; generalize decide (c.n = 0) = p5; generalize decide ((c.kids.length : Int) = 1) = p6; generalize same c.data form0 = p7; generalize idsOk ar c.ids = p8
      revert p3 p4 p5 p6 p7 p8; decide
    · simp only [k5, decide_false, cond_false, Bool.and_false, Bool.false_and]
      cases decide (c.kind = 1) <;> cases decide (c.kind = 2) <;> cases decide (c.kind = 3) <;> cases decide (c.kind = 4) <;> cases decide (c.kind = 6) <;> cases decide (c.kind = 7) <;> rfl
theorem l6Is_n : ∀ (n : Nat) (c : Core) (ar : List Int) (d : Nat), c.w ≤ n → c.fit → ar.length + c.w ≤ 2 ^ 36 → d ≤ 120 → Tr (fun m => m_spec_l6Is m c ar (d : Int)) (c.isOk ar d) := by
  intro n
  induction n with
  | zero => intro c ar d h; have := c.w_pos; omega
  | succ n ih =>
    intro c ar d h hf hb hd
    obtain ⟨f1, f2, f3, f4, f5⟩ := hf.parts
    have hw := c.w_kids
    rw [Core.isOk_eq, okF_eq]
    refine Tr.step (fun m => by rw [m_spec_l6Is]) ?_
    by_cases hd0 : d = 0
    · refine Tr.tt (decide_eq_true (by omega)) ?_
      rw [decide_eq_true hd0]; exact Tr.val
    refine Tr.ff (decide_eq_false (by omega)) (Tr.bind (l6Kids_tr _ _) ?_)
    rw [decide_eq_false hd0, cond_false]
    cases kidsOk c.kind (c.kids.length : Int) with
    | false => exact Tr.tt rfl Tr.val
    | true =>
    refine Tr.ff rfl (Tr.bind (fl_tr c f3 (by omega)) ?_)
    cases c.fl with
    | false => exact Tr.tt rfl Tr.val
    | true =>
    refine Tr.ff rfl ?_
    rw [Bool.true_and, Bool.true_and]
    have e : ((d : Int) - 1) = ((d - 1 : Nat) : Int) := by omega
    have rest : Tr (fun m => m_spec_l6Is_j1 m c ar (d : Int)) (idsOk ar c.ids && alls (fun x => x.isOk (ar ++ c.ids) (d - 1)) c.kids) := by
      refine Tr.step (fun m => by rw [m_spec_l6Is_j1]) ?_
      have key := drop_ind c.ids (fun k zs => ∀ inn : List Int, inn = ar ++ c.ids.take k → Tr (fun m => m_spec_l6Is_l3 m c (d : Int) inn (k : Int)) (idsOk inn zs && alls (fun x => x.isOk (ar ++ c.ids) (d - 1)) c.kids)) ?_ ?_ 0 (Nat.zero_le _) ar (by simp)
      · simpa using key
      · intro inn hinn
        rw [List.take_length] at hinn
        refine Tr.step (fun m => by rw [m_spec_l6Is_l3, ltN_self, cond_false]) (Tr.step (fun m => by rw [m_spec_l6Is_j2]) ?_)
        rw [hinn, idsOk, Bool.true_and]
        have := loop_all (xs := c.kids) (c := true) (D := fun x => x.isOk (ar ++ c.ids) (d - 1)) (L := fun m k => m_spec_l6Is_l5 m c (d : Int) (ar ++ c.ids) k) (E := fun m x => m_spec_l6Is m x (ar ++ c.ids) (w64 ((d : Int) - 1))) (fun m k => by rw [m_spec_l6Is_l5]) (fun x hx => by
          have := Core.ws_mem hx
          rw [w64_in (by omega), e]; exact ih x (ar ++ c.ids) (d - 1) (by omega) (Core.fits_mem f5 hx) (by simp; omega) (by omega))
        simpa using this
      · intro k x zs hk hx hdr ihk inn hinn
        have hil : inn.length ≤ ar.length + c.ids.length := by rw [hinn]; simp; omega
        refine Tr.step (fun m => by rw [m_spec_l6Is_l3, ltN hk, cond_true, idx_nat hx, Option.bind_some]) ?_
        rw [idsOk]
        have j : ∀ b, Tr (fun m => m_spec_l6Is_j4 m c (d : Int) inn (k : Int) b) (!b && (idsOk (inn ++ [x]) zs && alls (fun x => x.isOk (ar ++ c.ids) (d - 1)) c.kids)) := by
          intro b
          cases b with
          | true => exact Tr.step (fun m => by rw [m_spec_l6Is_j4, cond_true]; rfl) Tr.val
          | false =>
          refine Tr.step (fun m => by rw [m_spec_l6Is_j4, cond_false, idx_nat hx, Option.bind_some, succN]) (Tr.chk (by simp; omega) (Tr.chk (by simp; omega) ?_))
          refine ihk (inn ++ [x]) ?_
          rw [hinn, List.take_add_one, hx, List.append_assoc]; rfl
        by_cases h1 : x < 1
        · refine Tr.tt (decide_eq_true h1) ?_
          rw [decide_eq_false (show ¬ 1 ≤ x by omega)]; exact j true
        refine Tr.ff (decide_eq_false h1) (Tr.eq (fun m => by rw [Option.bind_some]) ?_)
        rw [decide_eq_true (show 1 ≤ x by omega), Bool.true_and]
        by_cases h2 : 999 < x
        · refine Tr.tt (decide_eq_true h2) ?_
          rw [decide_eq_false (show ¬ x ≤ 999 by omega)]; exact j true
        refine Tr.ff (decide_eq_false h2) (Tr.eq (fun m => by rw [Option.bind_some]) (Tr.bind (l2Has_tr _ _) ?_))
        rw [decide_eq_true (show x ≤ 999 by omega), Bool.true_and, Bool.and_assoc]
        exact j _
    by_cases k1 : c.kind = 1
    · refine Tr.tt (decide_eq_true k1) (Tr.bind (l2Has_tr _ _) ?_)
      rw [decide_eq_true k1, cond_true]
      cases hasB ar c.id with
      | false => exact Tr.tt rfl Tr.val
      | true => exact Tr.ff rfl (by simpa using rest)
    · refine Tr.ff (decide_eq_false k1) ?_
      rw [decide_eq_false k1, cond_false, Bool.true_and]; exact rest
theorem l6Count_n : ∀ (n : Nat) (f : Core), f.w ≤ n → f.w ≤ 2 ^ 36 → Tr (fun m => m_spec_l6Count m f) (f.cnt : Int) := by
  intro n
  induction n with
  | zero => intro a h; have := a.w_pos; omega
  | succ n ih =>
    intro f h hb
    have hw := f.w_kids
    have hc := Core.cnts_ws f.kids
    refine Tr.step (fun m => by rw [m_spec_l6Count]) ?_
    have key := drop_ind f.kids (fun k zs => ∀ g : Nat, g + Core.ws zs ≤ 2 ^ 37 → Tr (fun m => m_spec_l6Count_l1 m f (g : Int) (k : Int)) ((g + Core.cnts zs : Nat) : Int)) ?_ ?_ 0 (Nat.zero_le _) 1 (by simp; omega)
    · rw [Core.cnt_eq]; simpa using key
    · intro g hg
      exact Tr.step (fun m => by rw [m_spec_l6Count_l1, ltN_self, cond_false]; simp [Core.cnts]) Tr.val
    · intro k x zs hk hx hd ihk g hg
      have hm := List.mem_of_getElem? hx
      have hxw := Core.ws_mem hm
      have hcx := Core.cnt_w x
      rw [Core.ws] at hg
      refine Tr.step (fun m => by rw [m_spec_l6Count_l1, ltN hk, cond_true, idx_nat hx, Option.bind_some, succN]) ?_
      refine Tr.bind (ih x (by omega) (by omega)) ?_
      refine Tr.eq (fun m => by rw [w64_in (by omega), show (g : Int) + (x.cnt : Int) = ((g + x.cnt : Nat) : Int) by omega]) ?_
      rw [Core.cnts, ← Nat.add_assoc]
      exact ihk _ (by omega)
theorem specCoreValid_tr (f : Core) (hf : f.fit) (hb : f.w ≤ 2 ^ 36) : Tr (fun m => m_spec_CoreValid m f) f.valid := by
  refine Tr.eq (fun m => by unfold m_spec_CoreValid; rfl) (Tr.bind (l6Is_n _ f [] 120 (Nat.le_refl _) hf (by simpa using hb) (by omega)) ?_)
  unfold Core.valid
  cases f.isOk [] 120 with
  | false => exact Tr.ff rfl Tr.val
  | true =>
    refine Tr.tt rfl (Tr.bind (l6Count_n _ f (Nat.le_refl _) hb) (Tr.of fun m => ?_))
    rw [Bool.true_and]; congr 1
    rw [Bool.eq_iff_iff, decide_eq_true_iff, decide_eq_true_iff]; omega
mutual
def Core.wt : Core → Nat
  | .mk _ _ name _ ids data kids => name.size + ids.length + data.wt + Core.wts kids
def Core.wts : List Core → Nat
  | [] => 0
  | f :: fs => f.wt + 1 + Core.wts fs
end
theorem Core.wt_parts (f : Core) : f.wt = f.name.size + f.ids.length + f.data.wt + Core.wts f.kids := by obtain ⟨a, b, c, d, e, g, h⟩ := f; rw [Core.wt]; rfl
mutual
theorem Core.w_wt : ∀ f : Core, f.w ≤ 2 + 3 * f.wt
  | .mk a b c d e f g => by have := Core.ws_wts g; have := f.w_wt; rw [Core.w, Core.wt]; omega
theorem Core.ws_wts : ∀ l : List Core, Core.ws l ≤ 3 * Core.wts l
  | [] => by simp [Core.ws, Core.wts]
  | f :: fs => by have := Core.w_wt f; have := Core.ws_wts fs; rw [Core.ws, Core.wts]; omega
end
theorem szCoreS_of {l : List Core} {v : Int} (hl : l.length ≤ 9223372036854775807) (h0 : 0 ≤ v) (h1 : v ≤ 2 ^ 40) (ih : ∀ x ∈ l, ∀ v : Int, 0 ≤ v → v ≤ 2 ^ 40 → TQ (fun m => m_laws_szCore m x v) (Left v x.wt)) : TQ (fun m => m_laws_szCoreS m l v) (Left v (Core.wts l)) := by
  refine TQ.step (fun m => by rw [m_laws_szCoreS, w64_in (by omega)]) ?_
  refine TQ.cond (fun _ => TQ.val (.inl rfl)) (fun h => ?_)
  replace h : 0 ≤ v - (l.length : Int) := by simpa using h
  have key := drop_ind l (fun k zs => ∀ g : Int, 0 ≤ g → g ≤ 2 ^ 40 → TQ (fun m => m_laws_szCoreS_l1 m l g (k : Int)) (fun r => r = -1 ∨ (0 ≤ r ∧ r = g - Core.wts zs + zs.length))) ?_ ?_ 0 (Nat.zero_le _) _ h (by omega)
  · refine TQ.mono (by simpa using key) (fun r hr => ?_)
    rcases hr with hr | ⟨hr, he⟩
    · exact .inl hr
    · exact .inr ⟨hr, by rw [he]; omega⟩
  · intro g hg _
    exact TQ.step (fun m => by rw [m_laws_szCoreS_l1, ltN_self, cond_false]) (TQ.val (.inr ⟨hg, by simp [Core.wts]⟩))
  · intro k x zs hk hx hd ihk g hg hg1
    refine TQ.step (fun m => by rw [m_laws_szCoreS_l1, ltN hk, cond_true, idx_nat hx, Option.bind_some, succN]) ?_
    have hm := List.mem_of_getElem? hx
    refine TQ.bind (ih x hm g hg hg1) (fun r hr => ?_)
    rcases hr with rfl | ⟨hr, rfl⟩
    · exact TQ.cond (fun _ => TQ.val (.inl rfl)) (fun h => absurd h (by decide))
    refine TQ.cond (fun h => absurd h (by rw [geZ hr]; decide)) (fun _ => ?_)
    refine TQ.mono (ihk _ hr (by omega)) (fun r hr => ?_)
    rcases hr with hr | ⟨hr, he⟩
    · exact .inl hr
    · exact .inr ⟨hr, by rw [he, Core.wts, List.length_cons]; omega⟩
theorem szCore_n : ∀ (n : Nat) (f : Core) (v : Int), f.w ≤ n → f.fit → 0 ≤ v → v ≤ 2 ^ 40 → TQ (fun m => m_laws_szCore m f v) (Left v f.wt) := by
  intro n
  induction n with
  | zero => intro a v h; have := a.w_pos; omega
  | succ n ih =>
    intro f v h hf h0 h1
    obtain ⟨f1, f2, f3, f4, f5⟩ := hf.parts
    have hw := f.w_kids
    have hwt := f.wt_parts
    refine TQ.step (fun m => by rw [m_laws_szCore, w64_in (by omega)]) ?_
    refine TQ.cond (fun _ => TQ.val (.inl rfl)) (fun h => ?_)
    replace h : 0 ≤ v - (f.name.size : Int) := by simpa using h
    refine TQ.bind (szIntS_tq _ _ f2 h (by omega)) (fun v2 h2 => ?_)
    rcases h2 with rfl | ⟨h2, rfl⟩
    · exact TQ.cond (fun _ => TQ.val (.inl rfl)) (fun h => absurd h (by decide))
    refine TQ.cond (fun h => absurd h (by rw [geZ h2]; decide)) (fun _ => ?_)
    refine TQ.bind (szForm_tq _ _ f3 h2 (by omega)) (fun v4 h4 => ?_)
    rcases h4 with rfl | ⟨h4, rfl⟩
    · exact TQ.cond (fun _ => TQ.val (.inl rfl)) (fun h => absurd h (by decide))
    refine TQ.cond (fun h => absurd h (by rw [geZ h4]; decide)) (fun _ => ?_)
    refine TQ.bind (szCoreS_of (l := f.kids) f4 h4 (by omega) (fun x hx v h0 h1 => ih x v (by have := Core.ws_mem hx; omega) (Core.fits_mem f5 hx) h0 h1)) (fun r hr => ?_)
    rcases hr with rfl | ⟨hr, rfl⟩
    · exact TQ.cond (fun _ => TQ.val (.inl rfl)) (fun h => absurd h (by decide))
    exact TQ.cond (fun h => absurd h (by rw [geZ hr]; decide)) (fun _ => TQ.val (.inr ⟨hr, by omega⟩))
theorem szCore_tq (f : Core) (v : Int) (hf : f.fit) (h0 : 0 ≤ v) (h1 : v ≤ 2 ^ 40) : TQ (fun m => m_laws_szCore m f v) (Left v f.wt) := szCore_n _ f v (Nat.le_refl _) hf h0 h1
theorem toCore_n : ∀ (n : Nat) (f : Core), f.w ≤ n → f.w ≤ 2 ^ 36 → Tr (fun m => m_laws_toCore m f) f := by
  intro n
  induction n with
  | zero => intro a h; have := a.w_pos; omega
  | succ n ih =>
    intro f h hb
    have hw := f.w_kids
    have hl := Core.ws_len f.kids
    refine Tr.step (fun m => by rw [m_laws_toCore]) (Tr.bind (toIntS_tr f.ids (by omega)) (Tr.bind (toForm_tr f.data (by omega)) (Tr.bind (v := f.kids) ?_ ?_)))
    · refine Tr.step (fun m => by rw [m_laws_toCoreS]) (Tr.chk (by simp; omega) ?_)
      have := loop_copy (xs := f.kids) (z := Core.mk 0 0 (⟨#[]⟩ : ByteArray) 0 ([] : List Int) (Form.mk 0 (⟨#[]⟩ : ByteArray) 0 ([] : List Int) ([] : List Form)) ([] : List Core)) (f := fun x => x) (L := fun m k acc => m_laws_toCoreS_l1 m f.kids k acc) (E := fun m a => m_laws_toCore m a) (fun m k acc => by rw [m_laws_toCoreS_l1]) (fun a ha => ih a (by have := Core.ws_mem ha; omega) (by have := Core.ws_mem ha; omega))
      simpa using this
    · obtain ⟨a, b, c, d, e, g, h⟩ := f; exact Tr.val
theorem toCore_tr (f : Core) (hb : f.w ≤ 2 ^ 36) : Tr (fun m => m_laws_toCore m f) f := toCore_n _ f (Nat.le_refl _) hb
theorem eqCore_n : ∀ (n : Nat) (a b : Core), a.w ≤ n → Tr (fun m => m_laws_eqCore m a b) (same a b) := by
  intro n
  induction n with
  | zero => intro a b h; have := a.w_pos; omega
  | succ n ih =>
    intro a b h
    have hw := a.w_kids
    rw [core_same]
    refine Tr.step (fun m => by rw [m_laws_eqCore]) ?_
    by_cases h1 : a.kind = b.kind
    case neg => rw [decide_eq_false h1]; exact Tr.tt (decide_eq_true h1) Tr.val
    rw [decide_eq_true h1]
    refine Tr.ff (decide_eq_false (fun h => h h1)) ?_
    by_cases h2 : a.id = b.id
    case neg => rw [decide_eq_false h2]; exact Tr.tt (decide_eq_true h2) Tr.val
    rw [decide_eq_true h2]
    refine Tr.ff (decide_eq_false (fun h => h h2)) ?_
    by_cases h3 : a.name = b.name
    case neg => rw [decide_eq_false h3]; exact Tr.tt (decide_eq_true h3) Tr.val
    rw [decide_eq_true h3]
    refine Tr.ff (decide_eq_false (fun h => h h3)) ?_
    by_cases h4 : a.n = b.n
    case neg => rw [decide_eq_false h4]; exact Tr.tt (decide_eq_true h4) Tr.val
    rw [decide_eq_true h4]
    refine Tr.ff (decide_eq_false (fun h => h h4)) (Tr.bind (eqIntS_tr _ _) ?_)
    cases same a.ids b.ids with
    | false => exact Tr.tt rfl Tr.val
    | true =>
    refine Tr.ff rfl (Tr.bind (eqForm_tr _ _) ?_)
    cases same a.data b.data with
    | false => exact Tr.tt rfl Tr.val
    | true =>
    refine Tr.ff rfl (Tr.bind (v := same a.kids b.kids) ?_ ?_)
    · refine Tr.step (fun m => by rw [m_laws_eqCoreS]) ?_
      by_cases hl : a.kids.length = b.kids.length
      · exact Tr.ff (lenE hl) (loop_eq hl (L := fun m k => m_laws_eqCoreS_l1 m a.kids b.kids k) (E := fun m x y => m_laws_eqCore m x y) (fun m k => by rw [m_laws_eqCoreS_l1]) (fun x hx y _ => ih x y (by have := Core.ws_mem hx; omega)))
      · rw [same_len hl]; exact Tr.tt (lenB hl) Tr.val
    · cases same a.kids b.kids with
      | false => exact Tr.tt rfl Tr.val
      | true => exact Tr.ff rfl Tr.val
theorem eqCore_tr (a b : Core) : Tr (fun m => m_laws_eqCore m a b) (same a b) := eqCore_n _ a b (Nat.le_refl _)
end Go.Abs
end
section
set_option linter.unusedVariables false
set_option linter.unusedSimpArgs false
set_option maxHeartbeats 4000000
namespace Go.Abs
structure AInv (m : Int → Option Int) (l r : List Int) : Prop where
  len : l.length = r.length
  nl : l.Nodup
  nr : r.Nodup
  at_ : ∀ (i : Nat) (x : Int), l[i]? = some x → m x = r[i]?
theorem AInv.nil : AInv map0 [] [] := ⟨rfl, List.nodup_nil, List.nodup_nil, fun i x h => by simp at h⟩
theorem AInv.get {m : Int → Option Int} {l r : List Int} (h : AInv m l r) {x : Int} (hx : x ∈ l) : ∃ (i : Nat) (y : Int), l[i]? = some x ∧ r[i]? = some y ∧ mapGet m x = y := by
  obtain ⟨i, hi⟩ := List.mem_iff_getElem?.1 hx
  have hl := (List.getElem?_eq_some_iff.1 hi).1
  have hr : r[i]? = some (r[i]'(by have := h.len; omega)) := List.getElem?_eq_getElem _
  refine ⟨i, _, hi, hr, ?_⟩
  unfold mapGet; rw [h.at_ i x hi, hr]; rfl
theorem isOk_parts {c : Core} {ar : List Int} {d : Nat} (h : c.isOk ar d = true) : c.okF ar = true ∧ ∀ x ∈ c.kids, x.isOk (ar ++ c.ids) (d - 1) = true := by
  rw [Core.isOk_eq] at h
  by_cases hd : d = 0
  · rw [decide_eq_true hd] at h; cases h
  rw [decide_eq_false hd, cond_false, Bool.and_eq_true] at h
  exact ⟨h.1, alls_iff.1 h.2⟩
end Go.Abs
end
section
set_option linter.unusedVariables false
set_option linter.unusedSimpArgs false
set_option maxHeartbeats 4000000
namespace Go.Abs
mutual
def Core.dep : Core → Nat
  | .mk _ _ _ _ _ _ kids => Core.deps kids + 1
def Core.deps : List Core → Nat
  | [] => 0
  | x :: xs => max x.dep (Core.deps xs)
end
end Go.Abs
end
section
set_option linter.unusedVariables false
set_option linter.unusedSimpArgs false
set_option maxHeartbeats 2000000
namespace Go.Abs
open Go.Lib (itoa join joinTail decDigits nDigits)
def mkB (l : List UInt8) : ByteArray := ⟨l.toArray⟩
theorem mkB_list (l : List UInt8) : (mkB l).data.toList = l := by unfold mkB; simp
theorem mkB_size (l : List UInt8) : (mkB l).size = l.length := by rw [sz_list, mkB_list]
theorem mkB_of (s : ByteArray) : mkB s.data.toList = s := by unfold mkB; simp
theorem bcat_mk {a b : List UInt8} (h : a.length + b.length ≤ 2 ^ 60) : bcat (mkB a) (mkB b) = some (mkB (a ++ b)) := by
  unfold bcat
  rw [mkB_size, mkB_size, decide_eq_true (by omega), cond_true]
  refine congrArg some (ByteArray.ext ?_)
  rw [ByteArray.data_append]
  unfold mkB
  simp
theorem Tr.cat {γ : Type} {x y : ByteArray} {a b : List UInt8} {g : ByteArray → Nat → Option γ} {w : γ} (hx : x = mkB a) (hy : y = mkB b) (hl : a.length + b.length ≤ 2 ^ 60) (h : Tr (fun m => g (mkB (a ++ b)) m) w) : Tr (fun m => (bcat x y).bind fun v => g v m) w := by
  subst hx; subst hy
  exact Tr.eq (fun m => by rw [bcat_mk hl, Option.bind_some]) h
theorem nDig_le {n k : Nat} (h : n < 10 ^ (k + 1)) : nDigits n ≤ k + 1 := by
  induction k generalizing n with
  | zero => rw [Lib.nDigits_small (by simpa using h)]; omega
  | succ k ih =>
    by_cases h1 : n < 10
    · rw [Lib.nDigits_small h1]; omega
    · rw [Lib.nDigits_big h1]
      have := @ih (n / 10) (by rw [Nat.pow_succ] at h; omega)
      omega
theorem itoa_nat (n : Nat) : itoa (n : Int) = decDigits n := by unfold Lib.itoa; rw [if_neg (by omega), Int.toNat_natCast]
theorem itoa_len {n : Int} (h0 : 0 ≤ n) (h : n ≤ 999) : (itoa n).length ≤ 3 := by
  obtain ⟨k, rfl⟩ := Int.eq_ofNat_of_zero_le h0
  rw [itoa_nat, Lib.decDigits_length]
  exact nDig_le (k := 2) (by omega)
theorem itoa_tr {n : Int} (h0 : 0 ≤ n) (h : n ≤ 999) : Tr (fun m => m_strconv_Itoa m n) (mkB (itoa n)) :=
  Tr.eq (fun m => by unfold m_strconv_Itoa; rfl) (Tr.chk (decide_eq_true (by omega)) (Tr.chk (decide_eq_true (by omega)) Tr.val))
theorem dig_str {k : Nat} (h : k < 10) : strOf [w8 (w64 (48 + (k : Int)))] = mkB [UInt8.ofNat (48 + k)] := by
  have : k = 0 ∨ k = 1 ∨ k = 2 ∨ k = 3 ∨ k = 4 ∨ k = 5 ∨ k = 6 ∨ k = 7 ∨ k = 8 ∨ k = 9 := by omega
  rcases this with rfl | rfl | rfl | rfl | rfl | rfl | rfl | rfl | rfl | rfl <;> rfl
theorem dec_loop : ∀ (n : Nat) (acc : List UInt8), n ≤ 2 ^ 40 → acc.length + n ≤ 2 ^ 50 → Tr (fun m => m_spec_l15Dec_l1 m (n : Int) (mkB acc)) (mkB (decDigits n ++ acc)) := by
  intro n
  induction n using Nat.strongRecOn with
  | _ n ih =>
    intro acc hn hl
    refine Tr.step (fun m => by rw [m_spec_l15Dec_l1]) ?_
    by_cases h : n < 10
    · refine Tr.ff (decide_eq_false (by omega)) ?_
      rw [dig_str h, Lib.decDigits_one h]
      exact Tr.cat rfl rfl (by simp; omega) Tr.val
    · refine Tr.tt (decide_eq_true (by omega)) ?_
      have e1 : (n : Int).tmod 10 = ((n % 10 : Nat) : Int) := by rw [Int.tmod_eq_emod_of_nonneg (by omega)]; omega
      have e2 : (n : Int).tdiv 10 = ((n / 10 : Nat) : Int) := by rw [Int.tdiv_eq_ediv_of_nonneg (by omega)]; omega
      rw [e1, e2, dig_str (by omega)]
      refine Tr.cat rfl rfl (by simp; omega) ?_
      have := ih (n / 10) (by omega) ([UInt8.ofNat (48 + n % 10)] ++ acc) (by omega) (by simp; omega)
      rw [Lib.decDigits, dif_neg h, List.append_assoc]
      exact Tr.eq (fun m => by rw [w64_in (by omega)]) this
theorem dec_tr {n : Int} (h0 : 0 ≤ n) (h : n ≤ 999) : Tr (fun m => m_spec_l15Dec m n) (mkB (itoa n)) := by
  obtain ⟨k, rfl⟩ := Int.eq_ofNat_of_zero_le h0
  have := dec_loop k [] (by omega) (by simp; omega)
  rw [List.append_nil, ← itoa_nat] at this
  refine Tr.step (fun m => by rw [m_spec_l15Dec]) ?_
  refine Tr.ff (decide_eq_false (by omega)) ?_
  exact Tr.ff (decide_eq_false (by omega)) this
theorem join_len : ∀ (xs : List (List UInt8)) (sep : List UInt8), (join xs sep).length ≤ Lib.lens xs + xs.length * sep.length
  | [], sep => by simp [Lib.join_nil]
  | x :: r, sep => by
    rw [Lib.join_cons, List.length_append]
    have : ∀ r : List (List UInt8), (joinTail sep r).length = Lib.lens r + r.length * sep.length := by
      intro r
      induction r with
      | nil => simp [joinTail, Lib.lens]
      | cons y r ih =>
        have e : joinTail sep (y :: r) = sep ++ y ++ joinTail sep r := by simp [joinTail]
        rw [e, List.length_append, List.length_append, ih]
        simp only [Lib.lens, List.map_cons, List.sum_cons, List.length_cons]
        rw [Nat.succ_mul]; omega
    rw [this]
    simp only [Lib.lens, List.map_cons, List.sum_cons, List.length_cons]
    rw [Nat.succ_mul]; omega
theorem jt_cons (sep y : List UInt8) (r : List (List UInt8)) : joinTail sep (y :: r) = sep ++ y ++ joinTail sep r := by simp [joinTail]
theorem lens_cons (x : List UInt8) (r : List (List UInt8)) : Lib.lens (x :: r) = x.length + Lib.lens r := by simp [Lib.lens]
theorem join_tr {xs : List (List UInt8)} {sep : List UInt8} (h1 : xs.length ≤ 2 ^ 40) (h2 : Lib.lens xs + xs.length * sep.length ≤ 2 ^ 40) : Tr (fun m => m_strings_Join m (xs.map mkB) (mkB sep)) (mkB (join xs sep)) := by
  have e : ((xs.map mkB).map fun s => s.data.toList) = xs := by
    rw [List.map_map]
    conv => rhs; rw [← List.map_id xs]
    exact List.map_congr_left (fun x _ => mkB_list x)
  have := join_len xs sep
  refine Tr.eq (fun m => by unfold m_strings_Join; rw [e, mkB_list]) ?_
  exact Tr.chk (decide_eq_true (by rw [List.length_map]; omega)) (Tr.chk (decide_eq_true (by omega)) Tr.val)
def scTx (sc : List Int) : List UInt8 := bif decide (sc.length = 0) then [] else [123] ++ join (sc.map itoa) [44] ++ [125]
mutual
def Form.tx : Form → List UInt8
  | .mk k nm n sc kids => bif decide (k = 1) then nm.data.toList ++ scTx sc else bif decide (k = 2) then itoa n else [40] ++ join (Form.txs kids) [32] ++ [41]
def Form.txs : List Form → List (List UInt8)
  | [] => []
  | f :: fs => f.tx :: Form.txs fs
end
theorem Form.txs_eq : ∀ l : List Form, Form.txs l = l.map Form.tx
  | [] => rfl
  | f :: fs => by rw [Form.txs, Form.txs_eq fs]; rfl
theorem Form.tx_eq (f : Form) : f.tx = bif decide (f.kind = 1) then f.name.data.toList ++ scTx f.scopes else bif decide (f.kind = 2) then itoa f.n else [40] ++ join (f.kids.map Form.tx) [32] ++ [41] := by
  obtain ⟨a, b, c, d, e⟩ := f; rw [Form.tx, Form.txs_eq]; rfl
theorem nmOk_size {s : ByteArray} (h : nmOk s = true) : s.size ≤ 12 := by
  unfold nmOk at h
  rw [Bool.or_eq_true, Bool.or_eq_true, decide_eq_true_eq, decide_eq_true_eq, Bool.and_eq_true] at h
  rcases h with rfl | rfl | h
  · decide
  · decide
  · have := h.2
    unfold nmSz at this
    rw [Bool.and_eq_true, decide_eq_true_eq, decide_eq_true_eq] at this
    omega
theorem isOk_form {f : Form} {d : Nat} (h : f.isOk d = true) : (f.kind = 1 ∧ nmOk f.name = true ∧ scOk f.scopes = true) ∨ (f.kind = 2 ∧ 0 ≤ f.n ∧ f.n ≤ 999) ∨ (f.kind = 3 ∧ f.scopes = []) := by
  rw [Form.isOk_eq] at h
  cases hd : decide (d = 0) with
  | true => rw [hd] at h; cases h
  | false =>
  rw [hd, cond_false] at h
  by_cases h1 : f.kind = 1
  · rw [decide_eq_true h1, cond_true] at h
    simp only [Bool.and_eq_true] at h
    exact .inl ⟨h1, h.1, h.2.2.1⟩
  · rw [decide_eq_false h1, cond_false] at h
    by_cases h2 : f.kind = 2
    · rw [decide_eq_true h2, cond_true] at h
      simp only [Bool.and_eq_true, decide_eq_true_eq] at h
      exact .inr (.inl ⟨h2, h.2.1.1, h.2.1.2⟩)
    · rw [decide_eq_false h2, cond_false] at h
      simp only [Bool.and_eq_true, decide_eq_true_eq] at h
      exact .inr (.inr ⟨h.1, List.length_eq_zero_iff.1 (by omega)⟩)
theorem scF_all : ∀ {l : List Int} {p : Option Int}, scF p l = true → ∀ x ∈ l, 1 ≤ x ∧ x ≤ 99
  | [], p, h, x, hx => by cases hx
  | y :: l, p, h, x, hx => by
    rw [scF] at h
    simp only [Bool.and_eq_true, decide_eq_true_eq] at h
    rcases List.mem_cons.1 hx with rfl | hx
    · exact h.1
    · exact scF_all h.2.2 x hx
theorem scOk_all {l : List Int} (h : scOk l = true) : (∀ x ∈ l, 1 ≤ x ∧ x ≤ 99) ∧ l.length ≤ 24 := by
  unfold scOk at h
  rw [Bool.and_eq_true, decide_eq_true_eq] at h
  exact ⟨scF_all h.1, by omega⟩
theorem lens_itoa : ∀ {l : List Int}, (∀ x ∈ l, 1 ≤ x ∧ x ≤ 999) → Lib.lens (l.map itoa) ≤ 3 * l.length
  | [], _ => by simp [Lib.lens]
  | x :: l, h => by
    have h1 := lens_itoa (l := l) (fun y hy => h y (by simp [hy]))
    have h2 := itoa_len (n := x) (by have := h x (by simp); omega) (by have := h x (by simp); omega)
    rw [List.map_cons, lens_cons, List.length_cons]; omega
theorem scTx_len {l : List Int} (h : scOk l = true) : (scTx l).length ≤ 2 + 4 * l.length := by
  obtain ⟨h1, h2⟩ := scOk_all h
  unfold scTx
  cases decide (l.length = 0) with
  | true => simp
  | false =>
    have a := join_len (l.map itoa) [44]
    have b := lens_itoa (l := l) (fun x hx => by have := h1 x hx; omega)
    simp only [List.length_map, List.length_singleton] at a
    rw [cond_false]; simp only [List.length_append, List.length_singleton]; omega
theorem tx_len : ∀ (n : Nat) (f : Form) (d : Nat), f.w ≤ n → f.isOk d = true → f.tx.length ≤ 16 * f.w := by
  intro n
  induction n with
  | zero => intro f d h; have := f.w_kids; omega
  | succ n ih =>
    intro f d h hok
    have hw := f.w_kids
    rw [Form.tx_eq]
    rcases isOk_form hok with ⟨h1, h2, h3⟩ | ⟨h1, h2, h3⟩ | ⟨h1, h2⟩
    · have a := nmOk_size h2
      have b := scTx_len h3
      rw [sz_list] at a
      rw [decide_eq_true h1, cond_true, List.length_append]; omega
    · have a := itoa_len h2 h3
      rw [decide_eq_false (by omega), cond_false, decide_eq_true h1, cond_true]; omega
    · have hk := (isOk_kids hok).2
      have key : ∀ l : List Form, (∀ x ∈ l, x ∈ f.kids) → Lib.lens (l.map Form.tx) + l.length ≤ 16 * Form.ws l := by
        intro l
        induction l with
        | nil => intro _; simp [Lib.lens, Form.ws]
        | cons x l ihl =>
          intro hx
          have a := ihl (fun y hy => hx y (by simp [hy]))
          have hm := Form.ws_mem (hx x (by simp))
          have b := ih x (d - 1) (by omega) (hk x (hx x (by simp)))
          rw [List.map_cons, lens_cons, Form.ws, List.length_cons]; omega
      have a := join_len (f.kids.map Form.tx) [32]
      have b := key f.kids (fun x hx => hx)
      simp only [List.length_map, List.length_singleton] at a
      rw [decide_eq_false (by omega), cond_false, decide_eq_false (by omega), cond_false]
      simp only [List.length_append, List.length_singleton]; omega
theorem loop_txt {α γ : Type} {xs : List α} {f : α → List UInt8} {L : Nat → List ByteArray → Int → Option γ} {E : Nat → α → Option ByteArray} {F : Nat → List ByteArray → Option γ} {w : γ}
    (h0 : ∀ m acc k, L (m + 1) acc k = bif decide (k < (xs.length : Int)) then (idx xs k).bind fun a => (E m a).bind fun v => chk (decide ((acc.length + [v].length) * 16 ≤ 140737488355328)) (L m (acc ++ [v]) (k + 1)) else F m acc)
    (hE : ∀ a ∈ xs, Tr (fun m => E m a) (mkB (f a))) (hb : xs.length ≤ 2 ^ 40) (hF : Tr (fun m => F m ((xs.map f).map mkB)) w) : Tr (fun m => L m [] 0) w := by
  have key := drop_ind xs (fun k zs => ∀ acc : List (List UInt8), acc.length = k → acc ++ zs.map f = xs.map f → Tr (fun m => L m (acc.map mkB) (k : Int)) w) ?_ ?_ 0 (Nat.zero_le _) [] rfl (by simp)
  · exact key
  · intro acc _ hacc
    rw [List.map_nil, List.append_nil] at hacc
    refine Tr.step (fun m => by rw [h0, ltN_self, cond_false]) ?_
    rw [hacc]; exact hF
  · intro k x zs hk hx hd ih acc hl hacc
    refine Tr.step (fun m => by rw [h0, ltN hk, cond_true, idx_nat hx, Option.bind_some, succN]) ?_
    refine Tr.bind (hE x (List.mem_of_getElem? hx)) (Tr.chk (decide_eq_true (by simp; omega)) ?_)
    have := ih (acc ++ [f x]) (by simp [hl]) (by rw [List.append_assoc]; exact hacc)
    rw [List.map_append] at this
    exact this
theorem implText_n : ∀ (n : Nat) (f : Form) (d : Nat), f.w ≤ n → f.w ≤ 2 ^ 30 → f.isOk d = true → Tr (fun m => m_impl_formText m f) (mkB f.tx) := by
  intro n
  induction n with
  | zero => intro f d h; have := f.w_kids; omega
  | succ n ih =>
    intro f d h hb hok
    have hw := f.w_kids
    refine Tr.step (fun m => by rw [m_impl_formText]) ?_
    rw [Form.tx_eq]
    rcases isOk_form hok with ⟨h1, h2, h3⟩ | ⟨h1, h2, h3⟩ | ⟨h1, h2⟩
    · refine Tr.tt (decide_eq_true h1) ?_
      rw [decide_eq_true h1, cond_true]
      obtain ⟨s1, s2⟩ := scOk_all h3
      unfold scTx
      by_cases h0 : f.scopes.length = 0
      · rw [decide_eq_true h0, cond_true, List.append_nil, mkB_of]
        exact Tr.tt (decide_eq_true (by omega)) Tr.val
      · rw [decide_eq_false h0, cond_false]
        refine Tr.ff (decide_eq_false (by omega)) ?_
        refine loop_txt (xs := f.scopes) (f := itoa) (L := fun m g k => m_impl_formText_l2 m f g k) (E := fun m a => m_strconv_Itoa m a) (F := fun m g => m_impl_formText_j1 m f g) (fun m g k => by rw [m_impl_formText_l2]) (fun a ha => itoa_tr (by have := s1 a ha; omega) (by have := s1 a ha; omega)) (by omega) ?_
        have b := lens_itoa (l := f.scopes) (fun x hx => by have := s1 x hx; omega)
        have a := join_len (f.scopes.map itoa) [44]
        simp only [List.length_map, List.length_singleton] at a
        have hn := nmOk_size h2
        rw [sz_list] at hn
        refine Tr.step (fun m => by rw [m_impl_formText_j1]) ?_
        refine Tr.cat (a := f.name.data.toList) (b := [123]) (mkB_of _).symm rfl (by simp only [List.length_append, List.length_singleton]; omega) ?_
        refine Tr.bind (join_tr (xs := f.scopes.map itoa) (sep := [44]) (by rw [List.length_map]; omega) (by simp only [List.length_map, List.length_singleton]; omega)) ?_
        refine Tr.cat rfl rfl (by simp only [List.length_append, List.length_singleton]; omega) ?_
        refine Tr.cat (b := [125]) rfl rfl (by simp only [List.length_append, List.length_singleton]; omega) ?_
        rw [show f.name.data.toList ++ ([123] ++ join (f.scopes.map itoa) [44] ++ [125]) = f.name.data.toList ++ [123] ++ join (f.scopes.map itoa) [44] ++ [125] by simp]
        exact Tr.val
    · refine Tr.ff (decide_eq_false (by omega)) (Tr.tt (decide_eq_true h1) ?_)
      rw [decide_eq_false (show ¬ f.kind = 1 by omega), cond_false, decide_eq_true h1, cond_true]
      exact Tr.bind (itoa_tr h2 h3) Tr.val
    · refine Tr.ff (decide_eq_false (by omega)) (Tr.ff (decide_eq_false (by omega)) ?_)
      rw [decide_eq_false (show ¬ f.kind = 1 by omega), cond_false, decide_eq_false (show ¬ f.kind = 2 by omega), cond_false]
      have hk := (isOk_kids hok).2
      have hl := Form.ws_len f.kids
      have hj : ∀ l : List Form, (∀ x ∈ l, x ∈ f.kids) → Lib.lens (l.map Form.tx) ≤ 16 * Form.ws l := by
        intro l
        induction l with
        | nil => intro _; simp [Lib.lens]
        | cons x l ihl =>
          intro hx
          have a := ihl (fun y hy => hx y (by simp [hy]))
          have b := tx_len _ x (d - 1) (Nat.le_refl _) (hk x (hx x (by simp)))
          rw [List.map_cons, lens_cons, Form.ws]; omega
      have hjj := hj f.kids (fun x hx => hx)
      have a := join_len (f.kids.map Form.tx) [32]
      simp only [List.length_map, List.length_singleton] at a
      refine loop_txt (xs := f.kids) (f := Form.tx) (L := fun m g k => m_impl_formText_l3 m f g k) (E := fun m a => m_impl_formText m a) (F := fun m g => (m_strings_Join m g (⟨#[32]⟩ : ByteArray)).bind fun v27 => (bcat (⟨#[40]⟩ : ByteArray) v27).bind fun v28 => (bcat v28 (⟨#[41]⟩ : ByteArray)).bind fun v29 => some v29) (fun m g k => by rw [m_impl_formText_l3]) (fun x hx => ih x (d - 1) (by have := Form.ws_mem hx; omega) (by have := Form.ws_mem hx; omega) (hk x hx)) (by omega) ?_
      refine Tr.bind (join_tr (xs := f.kids.map Form.tx) (sep := [32]) (by rw [List.length_map]; omega) (by simp only [List.length_map, List.length_singleton]; omega)) ?_
      refine Tr.cat (a := [40]) rfl rfl (by simp; omega) ?_
      exact Tr.cat (b := [41]) rfl rfl (by simp; omega) Tr.val
theorem implText_tr {f : Form} {d : Nat} (hb : f.w ≤ 2 ^ 30) (h : f.isOk d = true) : Tr (fun m => m_impl_formText m f) (mkB f.tx) := implText_n _ f d (Nat.le_refl _) hb h
def tailL (sep : List UInt8) (k : Nat) (l : List (List UInt8)) : List UInt8 := bif decide (k = 0) then join l sep else joinTail sep l
theorem tailL_cons (sep : List UInt8) (k : Nat) (x : List UInt8) (l : List (List UInt8)) : tailL sep k (x :: l) = (bif decide (k = 0) then [] else sep) ++ x ++ tailL sep (k + 1) l := by
  unfold tailL
  rw [decide_eq_false (show ¬ k + 1 = 0 by omega), cond_false]
  cases decide (k = 0) with
  | true => rw [cond_true, cond_true, Lib.join_cons]; simp
  | false => rw [cond_false, cond_false, jt_cons]
theorem tailL_nil (sep : List UInt8) (k : Nat) : tailL sep k [] = [] := by unfold tailL; cases decide (k = 0) <;> rfl
theorem loop_sep {α γ : Type} {xs : List α} {f : α → List UInt8} {sep : List UInt8} {L : Nat → ByteArray → Int → Option γ} {F : Nat → ByteArray → Option γ} {w : γ} {a0 : List UInt8} (N : Nat)
    (h1 : ∀ (k : Nat) (a : α) (acc : List UInt8), xs[k]? = some a → acc.length + (f a).length + sep.length ≤ 2 ^ 50 → ∀ {w : γ}, Tr (fun m => L m (mkB (acc ++ (bif decide (k = 0) then [] else sep) ++ f a)) ((k + 1 : Nat) : Int)) w → Tr (fun m => L m (mkB acc) (k : Int)) w)
    (h2 : ∀ (acc : List UInt8) {w : γ}, Tr (fun m => F m (mkB acc)) w → Tr (fun m => L m (mkB acc) (xs.length : Int)) w)
    (hb : a0.length + Lib.lens (xs.map f) + xs.length * sep.length + sep.length ≤ 2 ^ 50) (hF : Tr (fun m => F m (mkB (a0 ++ join (xs.map f) sep))) w) : Tr (fun m => L m (mkB a0) 0) w := by
  have key := drop_ind xs (fun k zs => ∀ acc : List UInt8, acc.length + Lib.lens (zs.map f) + zs.length * sep.length + sep.length ≤ 2 ^ 50 → acc ++ tailL sep k (zs.map f) = a0 ++ join (xs.map f) sep → Tr (fun m => L m (mkB acc) (k : Int)) w) ?_ ?_ 0 (Nat.zero_le _) a0 hb (by rw [List.drop_zero]; rfl)
  · exact key
  · intro acc _ hacc
    rw [List.map_nil, tailL_nil, List.append_nil] at hacc
    refine h2 acc ?_
    rw [hacc]; exact hF
  · intro k x zs hk hx hd ih acc hl hacc
    rw [List.map_cons, lens_cons, List.length_cons, Nat.succ_mul] at hl
    rw [List.map_cons, tailL_cons] at hacc
    refine h1 k x acc hx (by omega) (ih _ ?_ ?_)
    · simp only [List.length_append]
      cases decide (k = 0) with
      | true => rw [cond_true, List.length_nil]; omega
      | false => rw [cond_false]; omega
    · rw [← hacc]; simp
theorem specText_n : ∀ (n : Nat) (f : Form) (d : Nat), f.w ≤ n → f.w ≤ 2 ^ 30 → f.isOk d = true → Tr (fun m => m_spec_l1Text m f) (mkB f.tx) := by
  intro n
  induction n with
  | zero => intro f d h; have := f.w_kids; omega
  | succ n ih =>
    intro f d h hb hok
    have hw := f.w_kids
    refine Tr.step (fun m => by rw [m_spec_l1Text]) ?_
    rw [Form.tx_eq]
    rcases isOk_form hok with ⟨h1, h2, h3⟩ | ⟨h1, h2, h3⟩ | ⟨h1, h2⟩
    · refine Tr.ff (decide_eq_false (by omega)) (Tr.tt (decide_eq_true h1) ?_)
      rw [decide_eq_true h1, cond_true]
      obtain ⟨s1, s2⟩ := scOk_all h3
      have hn := nmOk_size h2
      rw [sz_list] at hn
      have b := lens_itoa (l := f.scopes) (fun x hx => by have := s1 x hx; omega)
      have a := join_len (f.scopes.map itoa) [44]
      simp only [List.length_map, List.length_singleton] at a
      unfold scTx
      by_cases h0 : f.scopes.length = 0
      · rw [decide_eq_true h0, cond_true, List.append_nil, mkB_of]
        refine Tr.step (fun m => by rw [m_spec_l1Text_l2, decide_eq_false (by omega), cond_false]) ?_
        refine Tr.step (fun m => by rw [m_spec_l1Text_j1, decide_eq_false (by omega), cond_false]) ?_
        exact Tr.step (fun m => by rw [m_spec_l1Text_j4]) Tr.val
      · rw [decide_eq_false h0, cond_false]
        have fin : ∀ acc : List UInt8, acc.length ≤ 2 ^ 50 → Tr (fun m => m_spec_l1Text_j1 m f (mkB acc)) (mkB (acc ++ [125])) := fun acc hacc => by
          refine Tr.step (fun m => by rw [m_spec_l1Text_j1, decide_eq_true (by omega), cond_true]) ?_
          refine Tr.cat (b := [125]) rfl rfl (by simp; omega) ?_
          exact Tr.step (fun m => by rw [m_spec_l1Text_j4]) Tr.val
        -- the first sign is a brace, the others are commas
        cases hs : f.scopes with
        | nil => rw [hs] at h0; exact absurd rfl h0
        | cons x0 xs0 =>
          have g0 : f.scopes[0]? = some x0 := by rw [hs]; rfl
          rw [show (f.name : ByteArray) = mkB f.name.data.toList from (mkB_of _).symm]
          rw [mkB_list]
          have step : ∀ (k : Nat) (y : Int) (acc : List UInt8), f.scopes[k]? = some y → acc.length ≤ 2 ^ 49 → ∀ {w : ByteArray}, Tr (fun m => m_spec_l1Text_l2 m f (mkB (acc ++ (bif decide (k = 0) then [123] else [44]) ++ itoa y)) ((k + 1 : Nat) : Int)) w → Tr (fun m => m_spec_l1Text_l2 m f (mkB acc) (k : Int)) w := fun k y acc hy hacc w hT => by
            have hyb := s1 y (List.mem_of_getElem? hy)
            have hk : k < f.scopes.length := (List.getElem?_eq_some_iff.1 hy).1
            have hil := itoa_len (n := y) (by omega) (by omega)
            have j3 : ∀ sg : List UInt8, sg.length = 1 → sg = (bif decide (k = 0) then [123] else [44]) → Tr (fun m => m_spec_l1Text_j3 m f (mkB acc) (k : Int) (mkB sg)) w := fun sg h1 h2 => by
              refine Tr.step (fun m => by rw [m_spec_l1Text_j3]) ?_
              refine Tr.cat rfl rfl (by omega) ?_
              refine Tr.eq (fun m => by rw [idx_nat hy, Option.bind_some]) ?_
              refine Tr.bind (dec_tr (by omega) (by omega)) ?_
              refine Tr.cat rfl rfl (by simp; omega) ?_
              rw [h2]
              exact Tr.eq (fun m => by rw [succN]) hT
            refine Tr.step (fun m => by rw [m_spec_l1Text_l2, ltN hk, cond_true]) ?_
            by_cases hk0 : k = 0
            · exact Tr.tt (decide_eq_true (by omega)) (j3 [123] rfl (by rw [decide_eq_true hk0]; rfl))
            · exact Tr.ff (decide_eq_false (by omega)) (j3 [44] rfl (by rw [decide_eq_false hk0]; rfl))
          have e : f.name.data.toList ++ ([123] ++ join ((x0 :: xs0).map itoa) [44] ++ [125]) = (f.name.data.toList ++ [123] ++ itoa x0) ++ joinTail [44] (xs0.map itoa) ++ [125] := by rw [List.map_cons, Lib.join_cons]; simp
          rw [e]
          have i0 := itoa_len (n := x0) (by have := s1 x0 (List.mem_of_getElem? g0); omega) (by have := s1 x0 (List.mem_of_getElem? g0); omega)
          refine step 0 x0 _ g0 (by omega) ?_
          rw [decide_eq_true rfl, cond_true]
          rw [hs] at b s2
          rw [List.map_cons, lens_cons] at b
          have key := drop_ind f.scopes (fun k zs => 1 ≤ k → ∀ acc : List UInt8, acc.length + Lib.lens (zs.map itoa) + zs.length ≤ 2 ^ 40 → Tr (fun m => m_spec_l1Text_l2 m f (mkB acc) (k : Int)) (mkB (acc ++ joinTail [44] (zs.map itoa) ++ [125]))) ?_ ?_ 1 (by omega) (Nat.le_refl _) (f.name.data.toList ++ [123] ++ itoa x0) (by rw [hs]; simp only [List.drop_succ_cons, List.drop_zero, List.length_append, List.length_singleton, List.length_cons, List.length_nil] at b s2 ⊢; omega)
          · rw [hs] at key; exact key
          · intro _ acc hacc
            refine Tr.step (fun m => by rw [m_spec_l1Text_l2, ltN_self, cond_false]) ?_
            have := fin acc (by omega)
            rw [show joinTail [44] (([] : List Int).map itoa) = [] from rfl, List.append_nil]; exact this
          · intro k y zs hk hy hd ihk h1k acc hacc
            rw [List.map_cons, lens_cons, List.length_cons] at hacc
            refine step k y acc hy (by omega) ?_
            rw [decide_eq_false (by omega), cond_false, List.map_cons, jt_cons]
            have := ihk (by omega) (acc ++ [44] ++ itoa y) (by simp only [List.length_append, List.length_singleton]; omega)
            rw [show acc ++ ([44] ++ itoa y ++ joinTail [44] (zs.map itoa)) ++ [125] = acc ++ [44] ++ itoa y ++ joinTail [44] (zs.map itoa) ++ [125] by simp]
            exact this
    · refine Tr.tt (decide_eq_true h1) ?_
      rw [decide_eq_false (show ¬ f.kind = 1 by omega), cond_false, decide_eq_true h1, cond_true]
      exact Tr.bind (dec_tr h2 h3) Tr.val
    · refine Tr.ff (decide_eq_false (by omega)) (Tr.ff (decide_eq_false (by omega)) ?_)
      rw [decide_eq_false (show ¬ f.kind = 1 by omega), cond_false, decide_eq_false (show ¬ f.kind = 2 by omega), cond_false]
      have hk := (isOk_kids hok).2
      have hl := Form.ws_len f.kids
      have hj : ∀ l : List Form, (∀ x ∈ l, x ∈ f.kids) → Lib.lens (l.map Form.tx) ≤ 16 * Form.ws l := by
        intro l
        induction l with
        | nil => intro _; simp [Lib.lens]
        | cons x l ihl =>
          intro hx
          have a := ihl (fun y hy => hx y (by simp [hy]))
          have b := tx_len _ x (d - 1) (Nat.le_refl _) (hk x (hx x (by simp)))
          rw [List.map_cons, lens_cons, Form.ws]; omega
      have hjj := hj f.kids (fun x hx => hx)
      have a := join_len (f.kids.map Form.tx) [32]
      simp only [List.length_map, List.length_singleton] at a
      refine loop_sep (xs := f.kids) (f := Form.tx) (sep := [32]) (L := fun m g k => m_spec_l1Text_l5 m f g k) (F := fun m g => (bcat g (⟨#[41]⟩ : ByteArray)).bind fun v35 => some v35) (a0 := [40]) 0 ?_ ?_ (by simp; omega) (Tr.cat (b := [41]) rfl rfl (by simp; omega) Tr.val)
      · intro k x acc hx hacc w hT
        simp only [List.length_singleton] at hacc
        have hkl : k < f.kids.length := (List.getElem?_eq_some_iff.1 hx).1
        have hm := List.mem_of_getElem? hx
        have j6 : ∀ acc2 : List UInt8, acc2 = acc ++ (bif decide (k = 0) then [] else [32]) → acc2.length ≤ acc.length + 1 → Tr (fun m => m_spec_l1Text_j6 m f (k : Int) (mkB acc2)) w := fun acc2 h1 h2 => by
          refine Tr.step (fun m => by rw [m_spec_l1Text_j6, idx_nat hx, Option.bind_some]) ?_
          refine Tr.bind (ih x (d - 1) (by have := Form.ws_mem hm; omega) (by have := Form.ws_mem hm; omega) (hk x hm)) ?_
          refine Tr.cat rfl rfl (by omega) ?_
          rw [h1]; exact Tr.eq (fun m => by rw [succN]) hT
        refine Tr.step (fun m => by rw [m_spec_l1Text_l5, ltN hkl, cond_true]) ?_
        by_cases hk0 : k = 0
        · exact Tr.ff (decide_eq_false (by omega)) (j6 acc (by rw [decide_eq_true hk0, cond_true, List.append_nil]) (by omega))
        · exact Tr.tt (decide_eq_true (by omega)) (Tr.cat (b := [32]) rfl rfl (by simp; omega) (j6 _ (by rw [decide_eq_false hk0, cond_false]) (by simp)))
      · intro acc w hT
        exact Tr.step (fun m => by rw [m_spec_l1Text_l5, ltN_self, cond_false]) hT
theorem specText_tr {f : Form} {d : Nat} (hb : f.w ≤ 2 ^ 30) (h : f.isOk d = true) : Tr (fun m => m_spec_l1Text m f) (mkB f.tx) := specText_n _ f d (Nat.le_refl _) hb h
end Go.Abs
end
section
set_option linter.unusedVariables false
set_option linter.unusedSimpArgs false
set_option maxHeartbeats 2000000
namespace Go.Abs
open Go.Lib (itoa join joinTail decDigits nDigits)
def idTx (x : Int) : List UInt8 := [35] ++ itoa x
mutual
def Core.tx : Core → List UInt8
  | .mk k i nm n ids d kids =>
    bif decide (k = 1) then idTx i else bif decide (k = 2) then nm.data.toList else bif decide (k = 3) then itoa n else bif decide (k = 4) then [39] ++ d.tx
    else (bif decide (k = 5) then [40, 102, 117, 110, 32, 40] ++ join (ids.map idTx) [32] ++ [41, 32] else bif decide (k = 6) then [40] else [40, 105, 102, 32]) ++ join (Core.txs kids) [32] ++ [41]
def Core.txs : List Core → List (List UInt8)
  | [] => []
  | f :: fs => f.tx :: Core.txs fs
end
theorem Core.txs_eq : ∀ l : List Core, Core.txs l = l.map Core.tx
  | [] => rfl
  | f :: fs => by rw [Core.txs, Core.txs_eq fs]; rfl
def Core.hd (c : Core) : List UInt8 := bif decide (c.kind = 5) then [40, 102, 117, 110, 32, 40] ++ join (c.ids.map idTx) [32] ++ [41, 32] else bif decide (c.kind = 6) then [40] else [40, 105, 102, 32]
theorem Core.tx_eq (c : Core) : c.tx = bif decide (c.kind = 1) then idTx c.id else bif decide (c.kind = 2) then c.name.data.toList else bif decide (c.kind = 3) then itoa c.n else bif decide (c.kind = 4) then [39] ++ c.data.tx
    else c.hd ++ join (c.kids.map Core.tx) [32] ++ [41] := by
  obtain ⟨a, b, c, d, e, f, g⟩ := c; rw [Core.tx, Core.txs_eq]; rfl
theorem idsOk_all : ∀ {l inn : List Int}, idsOk inn l = true → ∀ x ∈ l, 1 ≤ x ∧ x ≤ 999
  | [], inn, h, x, hx => by cases hx
  | y :: l, inn, h, x, hx => by
    rw [idsOk] at h
    simp only [Bool.and_eq_true, decide_eq_true_eq] at h
    rcases List.mem_cons.1 hx with rfl | hx
    · exact h.1
    · exact idsOk_all h.2.2 x hx
theorem isOk_core {c : Core} {ar : List Int} {d : Nat} (h : c.isOk ar d = true) : (c.kind = 1 ∧ 1 ≤ c.id ∧ c.id ≤ 999 ∧ c.kids = []) ∨ (c.kind = 2 ∧ nmOk c.name = true ∧ c.kids = []) ∨ (c.kind = 3 ∧ 0 ≤ c.n ∧ c.n ≤ 999 ∧ c.kids = []) ∨ (c.kind = 4 ∧ c.data.valid = true ∧ c.kids = []) ∨
    (c.kind = 5 ∧ ∀ x ∈ c.ids, 1 ≤ x ∧ x ≤ 999) ∨ c.kind = 6 ∨ c.kind = 7 := by
  have hF := (isOk_parts h).1
  unfold Core.okF lenI at hF
  by_cases h1 : c.kind = 1
  · rw [decide_eq_true h1, cond_true] at hF
    simp only [Bool.and_eq_true, decide_eq_true_eq] at hF
    exact .inl ⟨h1, hF.1.1, hF.1.2, List.length_eq_zero_iff.1 (by omega)⟩
  rw [decide_eq_false h1, cond_false] at hF
  by_cases h2 : c.kind = 2
  · rw [decide_eq_true h2, cond_true] at hF
    simp only [Bool.and_eq_true, decide_eq_true_eq] at hF
    exact .inr (.inl ⟨h2, hF.1, List.length_eq_zero_iff.1 (by omega)⟩)
  rw [decide_eq_false h2, cond_false] at hF
  by_cases h3 : c.kind = 3
  · rw [decide_eq_true h3, cond_true] at hF
    simp only [Bool.and_eq_true, decide_eq_true_eq] at hF
    exact .inr (.inr (.inl ⟨h3, hF.1.1, hF.1.2, List.length_eq_zero_iff.1 (by omega)⟩))
  rw [decide_eq_false h3, cond_false] at hF
  by_cases h4 : c.kind = 4
  · rw [decide_eq_true h4, cond_true] at hF
    simp only [Bool.and_eq_true, decide_eq_true_eq] at hF
    exact .inr (.inr (.inr (.inl ⟨h4, hF.1.1, List.length_eq_zero_iff.1 (by omega)⟩)))
  rw [decide_eq_false h4, cond_false] at hF
  by_cases h5 : c.kind = 5
  · rw [decide_eq_true h5, cond_true] at hF
    simp only [Bool.and_eq_true] at hF
    exact .inr (.inr (.inr (.inr (.inl ⟨h5, idsOk_all hF.1⟩))))
  rw [decide_eq_false h5, cond_false] at hF
  by_cases h6 : c.kind = 6
  · exact .inr (.inr (.inr (.inr (.inr (.inl h6)))))
  rw [decide_eq_false h6, cond_false] at hF
  by_cases h7 : c.kind = 7
  · exact .inr (.inr (.inr (.inr (.inr (.inr h7)))))
  rw [decide_eq_false h7, cond_false] at hF
  cases hF
theorem fvalid_isOk {f : Form} (h : f.valid = true) : f.isOk 40 = true := by
  unfold Form.valid at h
  rw [Bool.and_eq_true] at h; exact h.1
theorem lens_idTx : ∀ {l : List Int}, (∀ x ∈ l, 1 ≤ x ∧ x ≤ 999) → Lib.lens (l.map idTx) ≤ 4 * l.length
  | [], _ => by simp [Lib.lens]
  | x :: l, h => by
    have h1 := lens_idTx (l := l) (fun y hy => h y (by simp [hy]))
    have h2 := itoa_len (n := x) (by have := h x (by simp); omega) (by have := h x (by simp); omega)
    rw [List.map_cons, lens_cons, List.length_cons]
    unfold idTx at h1 ⊢
    simp only [List.length_append, List.length_singleton]; omega
theorem hd_len {c : Core} (h : c.kind = 5 → ∀ x ∈ c.ids, 1 ≤ x ∧ x ≤ 999) : c.hd.length ≤ 8 + 5 * c.ids.length := by
  unfold Core.hd
  by_cases h5 : c.kind = 5
  · rw [decide_eq_true h5, cond_true]
    have a := join_len (c.ids.map idTx) [32]
    have b := lens_idTx (h h5)
    simp only [List.length_map, List.length_singleton] at a
    simp only [List.length_append, List.length_cons, List.length_nil]; omega
  · rw [decide_eq_false h5, cond_false]
    cases decide (c.kind = 6) <;> simp <;> omega
theorem ctx_len : ∀ (n : Nat) (c : Core) (ar : List Int) (d : Nat), c.w ≤ n → c.isOk ar d = true → c.tx.length ≤ 16 * c.w := by
  intro n
  induction n with
  | zero => intro c ar d h; have := c.w_pos; omega
  | succ n ih =>
    intro c ar d h hok
    have hw := c.w_kids
    have hk := (isOk_parts hok).2
    rw [Core.tx_eq]
    have big : (c.kind = 5 → ∀ x ∈ c.ids, 1 ≤ x ∧ x ≤ 999) → ¬ c.kind = 1 → ¬ c.kind = 2 → ¬ c.kind = 3 → ¬ c.kind = 4 → (c.hd ++ join (c.kids.map Core.tx) [32] ++ [41]).length ≤ 16 * c.w := fun h5 _ _ _ _ => by
      have key : ∀ l : List Core, (∀ x ∈ l, x ∈ c.kids) → Lib.lens (l.map Core.tx) + l.length ≤ 16 * Core.ws l := by
        intro l
        induction l with
        | nil => intro _; simp [Lib.lens, Core.ws]
        | cons x l ihl =>
          intro hx
          have a := ihl (fun y hy => hx y (by simp [hy]))
          have hm := Core.ws_mem (hx x (by simp))
          have b := ih x _ (d - 1) (by omega) (hk x (hx x (by simp)))
          rw [List.map_cons, lens_cons, Core.ws, List.length_cons]; omega
      have a := join_len (c.kids.map Core.tx) [32]
      have b := key c.kids (fun x hx => hx)
      have e := hd_len h5
      have dw := c.data.w_pos
      simp only [List.length_map, List.length_singleton] at a
      simp only [List.length_append, List.length_singleton]; omega
    rcases isOk_core hok with ⟨h1, h2, h3, _⟩ | ⟨h1, h2, _⟩ | ⟨h1, h2, h3, _⟩ | ⟨h1, h2, _⟩ | ⟨h1, h2⟩ | h1 | h1
    · have a := itoa_len (n := c.id) (by omega) h3
      rw [decide_eq_true h1, cond_true]
      unfold idTx
      simp only [List.length_append, List.length_singleton]; omega
    · have a := nmOk_size h2
      rw [sz_list] at a
      rw [decide_eq_false (by omega), cond_false, decide_eq_true h1, cond_true]; omega
    · have a := itoa_len h2 h3
      rw [decide_eq_false (by omega), cond_false, decide_eq_false (by omega), cond_false, decide_eq_true h1, cond_true]; omega
    · have a := tx_len _ c.data 40 (Nat.le_refl _) (fvalid_isOk h2)
      rw [decide_eq_false (by omega), cond_false, decide_eq_false (by omega), cond_false, decide_eq_false (by omega), cond_false, decide_eq_true h1, cond_true]
      simp only [List.length_append, List.length_singleton]; omega
    · rw [decide_eq_false (by omega), cond_false, decide_eq_false (by omega), cond_false, decide_eq_false (by omega), cond_false, decide_eq_false (by omega), cond_false]
      exact big (fun _ => h2) (by omega) (by omega) (by omega) (by omega)
    · rw [decide_eq_false (by omega), cond_false, decide_eq_false (by omega), cond_false, decide_eq_false (by omega), cond_false, decide_eq_false (by omega), cond_false]
      exact big (fun _ => by omega) (by omega) (by omega) (by omega) (by omega)
    · rw [decide_eq_false (by omega), cond_false, decide_eq_false (by omega), cond_false, decide_eq_false (by omega), cond_false, decide_eq_false (by omega), cond_false]
      exact big (fun _ => by omega) (by omega) (by omega) (by omega) (by omega)
theorem kids_lens {c : Core} {ar : List Int} {d : Nat} (h : c.isOk ar d = true) : Lib.lens (c.kids.map Core.tx) ≤ 16 * Core.ws c.kids := by
  have hk := (isOk_parts h).2
  have key : ∀ l : List Core, (∀ x ∈ l, x ∈ c.kids) → Lib.lens (l.map Core.tx) ≤ 16 * Core.ws l := by
    intro l
    induction l with
    | nil => intro _; simp [Lib.lens]
    | cons x l ihl =>
      intro hx
      have a := ihl (fun y hy => hx y (by simp [hy]))
      have b := ctx_len _ x _ (d - 1) (Nat.le_refl _) (hk x (hx x (by simp)))
      rw [List.map_cons, lens_cons, Core.ws]; omega
  exact key c.kids (fun x hx => hx)
theorem implCText_n : ∀ (n : Nat) (c : Core) (ar : List Int) (d : Nat), c.w ≤ n → c.w ≤ 2 ^ 30 → c.isOk ar d = true → Tr (fun m => m_impl_coreText m c) (mkB c.tx) := by
  intro n
  induction n with
  | zero => intro c ar d h; have := c.w_pos; omega
  | succ n ih =>
    intro c ar d h hb hok
    have hw := c.w_kids
    have hk := (isOk_parts hok).2
    have hl := Core.ws_len c.kids
    have kl := kids_lens hok
    have a := join_len (c.kids.map Core.tx) [32]
    simp only [List.length_map, List.length_singleton] at a
    refine Tr.step (fun m => by rw [m_impl_coreText]) ?_
    refine loop_txt (xs := c.kids) (f := Core.tx) (L := fun m g k => m_impl_coreText_l2 m c g k) (E := fun m a => m_impl_coreText m a) (F := fun m g => m_impl_coreText_j1 m c g) (fun m g k => by rw [m_impl_coreText_l2]) (fun x hx => ih x _ (d - 1) (by have := Core.ws_mem hx; omega) (by have := Core.ws_mem hx; omega) (hk x hx)) (by omega) ?_
    refine Tr.step (fun m => by rw [m_impl_coreText_j1]) ?_
    refine Tr.bind (join_tr (xs := c.kids.map Core.tx) (sep := [32]) (by rw [List.length_map]; omega) (by simp only [List.length_map, List.length_singleton]; omega)) ?_
    rw [Core.tx_eq]
    rcases isOk_core hok with ⟨h1, h2, h3, _⟩ | ⟨h1, h2, _⟩ | ⟨h1, h2, h3, _⟩ | ⟨h1, h2, _⟩ | ⟨h1, h2⟩ | h1 | h1
    · have b := itoa_len (n := c.id) (by omega) h3
      rw [decide_eq_true h1, cond_true]
      refine Tr.eq (fun m => by rw [cond_true]) ?_
      refine Tr.bind (itoa_tr (by omega) h3) ?_
      exact Tr.cat (a := [35]) rfl rfl (by simp only [List.length_singleton]; omega) Tr.val
    · rw [decide_eq_false (by omega), cond_false, decide_eq_true h1, cond_true, mkB_of]
      exact Tr.eq (fun m => by rw [cond_false, cond_true]) Tr.val
    · rw [decide_eq_false (by omega), cond_false, decide_eq_false (by omega), cond_false, decide_eq_true h1, cond_true]
      refine Tr.eq (fun m => by rw [cond_false, cond_false, cond_true]) ?_
      exact Tr.bind (itoa_tr h2 h3) Tr.val
    · have b := tx_len _ c.data 40 (Nat.le_refl _) (fvalid_isOk h2)
      rw [decide_eq_false (by omega), cond_false, decide_eq_false (by omega), cond_false, decide_eq_false (by omega), cond_false, decide_eq_true h1, cond_true]
      refine Tr.eq (fun m => by rw [cond_false, cond_false, cond_false, cond_true]) ?_
      refine Tr.bind (implText_tr (by omega) (fvalid_isOk h2)) ?_
      exact Tr.cat (a := [39]) rfl rfl (by simp only [List.length_singleton]; omega) Tr.val
    · rw [decide_eq_false (by omega), cond_false, decide_eq_false (by omega), cond_false, decide_eq_false (by omega), cond_false, decide_eq_false (by omega), cond_false, decide_eq_true h1]
      refine Tr.eq (fun m => by rw [cond_false, cond_false, cond_false, cond_false, cond_true]) ?_
      have e := lens_idTx h2
      have e2 := join_len (c.ids.map idTx) [32]
      simp only [List.length_map, List.length_singleton] at e2
      refine loop_txt (xs := c.ids) (f := idTx) (L := fun m g k => m_impl_coreText_l4 m c (mkB (join (c.kids.map Core.tx) [32])) g k) (E := fun m x => (m_strconv_Itoa m x).bind fun v => bcat (⟨#[35]⟩ : ByteArray) v) (F := fun m g => m_impl_coreText_j3 m (mkB (join (c.kids.map Core.tx) [32])) g) (fun m g k => by
        rw [m_impl_coreText_l4]
        cases decide (k < (c.ids.length : Int)) with
        | false => rfl
        | true =>
          rw [cond_true, cond_true]
          cases idx c.ids k with
          | none => rfl
          | some x => rw [Option.bind_some, Option.bind_some, Option.bind_assoc]) (fun x hx => ?_) (by omega) ?_
      · have hx2 := h2 x hx
        have b := itoa_len (n := x) (by omega) (by omega)
        exact Tr.bind (itoa_tr (by omega) (by omega)) (Tr.of fun m => bcat_mk (a := [35]) (by simp only [List.length_singleton]; omega))
      · refine Tr.step (fun m => by rw [m_impl_coreText_j3]) ?_
        refine Tr.bind (join_tr (xs := c.ids.map idTx) (sep := [32]) (by rw [List.length_map]; omega) (by simp only [List.length_map, List.length_singleton]; omega)) ?_
        refine Tr.cat (a := [40, 102, 117, 110, 32, 40]) rfl rfl (by simp only [List.length_cons, List.length_nil]; omega) ?_
        refine Tr.cat (b := [41, 32]) rfl rfl (by simp only [List.length_append, List.length_cons, List.length_nil]; omega) ?_
        refine Tr.cat rfl rfl (by simp only [List.length_append, List.length_cons, List.length_nil]; omega) ?_
        refine Tr.cat (b := [41]) rfl rfl (by simp only [List.length_append, List.length_cons, List.length_nil]; omega) ?_
        unfold Core.hd
        rw [decide_eq_true h1, cond_true]
        exact Tr.val
    · rw [decide_eq_false (by omega), cond_false, decide_eq_false (by omega), cond_false, decide_eq_false (by omega), cond_false, decide_eq_false (by omega), cond_false, decide_eq_false (show ¬ c.kind = 5 by omega), decide_eq_true h1]
      refine Tr.eq (fun m => by rw [cond_false, cond_false, cond_false, cond_false, cond_false, cond_true]) ?_
      refine Tr.cat (a := [40]) rfl rfl (by simp only [List.length_cons, List.length_nil]; omega) ?_
      refine Tr.cat (b := [41]) rfl rfl (by simp only [List.length_append, List.length_cons, List.length_nil]; omega) ?_
      unfold Core.hd
      rw [decide_eq_false (show ¬ c.kind = 5 by omega), cond_false, decide_eq_true h1, cond_true]
      exact Tr.val
    · rw [decide_eq_false (by omega), cond_false, decide_eq_false (by omega), cond_false, decide_eq_false (by omega), cond_false, decide_eq_false (by omega), cond_false, decide_eq_false (show ¬ c.kind = 5 by omega), decide_eq_false (show ¬ c.kind = 6 by omega)]
      refine Tr.eq (fun m => by rw [cond_false, cond_false, cond_false, cond_false, cond_false, cond_false]) ?_
      refine Tr.cat (a := [40, 105, 102, 32]) rfl rfl (by simp only [List.length_cons, List.length_nil]; omega) ?_
      refine Tr.cat (b := [41]) rfl rfl (by simp only [List.length_append, List.length_cons, List.length_nil]; omega) ?_
      unfold Core.hd
      rw [decide_eq_false (show ¬ c.kind = 5 by omega), cond_false, decide_eq_false (show ¬ c.kind = 6 by omega), cond_false]
      exact Tr.val
theorem specCText_n : ∀ (n : Nat) (c : Core) (ar : List Int) (d : Nat), c.w ≤ n → c.w ≤ 2 ^ 30 → c.isOk ar d = true → Tr (fun m => m_spec_l6Text m c) (mkB c.tx) := by
  intro n
  induction n with
  | zero => intro c ar d h; have := c.w_pos; omega
  | succ n ih =>
    intro c ar d h hb hok
    have hw := c.w_kids
    have hk := (isOk_parts hok).2
    have hl := Core.ws_len c.kids
    have kl := kids_lens hok
    have a := join_len (c.kids.map Core.tx) [32]
    simp only [List.length_map, List.length_singleton] at a
    -- the kids
    have kids : ∀ a0 : List UInt8, a0.length ≤ 2 ^ 40 → Tr (fun m => m_spec_l6Text_j2 m c (mkB a0)) (mkB (a0 ++ join (c.kids.map Core.tx) [32] ++ [41])) := fun a0 h0 => by
      refine Tr.step (fun m => by rw [m_spec_l6Text_j2]) ?_
      refine loop_sep (xs := c.kids) (f := Core.tx) (sep := [32]) (L := fun m g k => m_spec_l6Text_l5 m c g k) (F := fun m g => (bcat g (⟨#[41]⟩ : ByteArray)).bind fun v42 => some v42) (a0 := a0) 0 ?_ ?_ (by simp only [List.length_singleton]; omega) (Tr.cat (b := [41]) rfl rfl (by simp only [List.length_append, List.length_singleton]; omega) Tr.val)
      · intro k x acc hx hacc w hT
        simp only [List.length_singleton] at hacc
        have hkl : k < c.kids.length := (List.getElem?_eq_some_iff.1 hx).1
        have hm := List.mem_of_getElem? hx
        have j6 : ∀ acc2 : List UInt8, acc2 = acc ++ (bif decide (k = 0) then [] else [32]) → acc2.length ≤ acc.length + 1 → Tr (fun m => m_spec_l6Text_j6 m c (k : Int) (mkB acc2)) w := fun acc2 h1 h2 => by
          refine Tr.step (fun m => by rw [m_spec_l6Text_j6, idx_nat hx, Option.bind_some]) ?_
          refine Tr.bind (ih x _ (d - 1) (by have := Core.ws_mem hm; omega) (by have := Core.ws_mem hm; omega) (hk x hm)) ?_
          refine Tr.cat rfl rfl (by omega) ?_
          rw [h1]; exact Tr.eq (fun m => by rw [succN]) hT
        refine Tr.step (fun m => by rw [m_spec_l6Text_l5, ltN hkl, cond_true]) ?_
        by_cases hk0 : k = 0
        · exact Tr.ff (decide_eq_false (by omega)) (j6 acc (by rw [decide_eq_true hk0, cond_true, List.append_nil]) (by omega))
        · exact Tr.tt (decide_eq_true (by omega)) (Tr.cat (b := [32]) rfl rfl (by simp only [List.length_singleton]; omega) (j6 _ (by rw [decide_eq_false hk0, cond_false]) (by simp)))
      · intro acc w hT
        exact Tr.step (fun m => by rw [m_spec_l6Text_l5, ltN_self, cond_false]) hT
    refine Tr.step (fun m => by rw [m_spec_l6Text]) ?_
    rw [Core.tx_eq]
    rcases isOk_core hok with ⟨h1, h2, h3, _⟩ | ⟨h1, h2, _⟩ | ⟨h1, h2, h3, _⟩ | ⟨h1, h2, _⟩ | ⟨h1, h2⟩ | h1 | h1
    · have b := itoa_len (n := c.id) (by omega) h3
      rw [decide_eq_true h1, cond_true]
      refine Tr.eq (fun m => by rw [cond_true]) ?_
      refine Tr.bind (dec_tr (by omega) h3) ?_
      exact Tr.cat (a := [35]) rfl rfl (by simp only [List.length_singleton]; omega) Tr.val
    · rw [decide_eq_false (show ¬ c.kind = 1 by omega), cond_false, decide_eq_true h1, cond_true, mkB_of]
      exact Tr.eq (fun m => by rw [cond_false, cond_true]) Tr.val
    · rw [decide_eq_false (show ¬ c.kind = 1 by omega), cond_false, decide_eq_false (show ¬ c.kind = 2 by omega), cond_false, decide_eq_true h1, cond_true]
      refine Tr.eq (fun m => by rw [cond_false, cond_false, cond_true]) ?_
      exact Tr.bind (dec_tr h2 h3) Tr.val
    · have b := tx_len _ c.data 40 (Nat.le_refl _) (fvalid_isOk h2)
      rw [decide_eq_false (show ¬ c.kind = 1 by omega), cond_false, decide_eq_false (show ¬ c.kind = 2 by omega), cond_false, decide_eq_false (show ¬ c.kind = 3 by omega), cond_false, decide_eq_true h1, cond_true]
      refine Tr.eq (fun m => by rw [cond_false, cond_false, cond_false, cond_true]) ?_
      refine Tr.bind (specText_tr (by omega) (fvalid_isOk h2)) ?_
      exact Tr.cat (a := [39]) rfl rfl (by simp only [List.length_singleton]; omega) Tr.val
    · rw [decide_eq_false (show ¬ c.kind = 1 by omega), cond_false, decide_eq_false (show ¬ c.kind = 2 by omega), cond_false, decide_eq_false (show ¬ c.kind = 3 by omega), cond_false, decide_eq_false (show ¬ c.kind = 4 by omega), cond_false, decide_eq_false (show ¬ c.kind = 7 by omega)]
      refine Tr.eq (fun m => by rw [cond_false, cond_false, cond_false, cond_false, cond_false]) ?_
      refine Tr.step (fun m => by rw [m_spec_l6Text_j1, decide_eq_true h1, cond_true]) ?_
      have e := lens_idTx h2
      have e2 := join_len (c.ids.map idTx) [32]
      simp only [List.length_map, List.length_singleton] at e2
      unfold Core.hd
      rw [decide_eq_true h1, cond_true]
      refine loop_sep (xs := c.ids) (f := idTx) (sep := [32]) (L := fun m g k => m_spec_l6Text_l3 m c g k) (F := fun m g => (bcat g (⟨#[41, 32]⟩ : ByteArray)).bind fun v27 => m_spec_l6Text_j2 m c v27) (a0 := [40, 102, 117, 110, 32, 40]) 0 ?_ ?_ (by simp only [List.length_cons, List.length_nil]; omega) (Tr.cat (b := [41, 32]) rfl rfl (by simp only [List.length_append, List.length_cons, List.length_nil]; omega) (kids _ (by simp only [List.length_append, List.length_cons, List.length_nil]; omega)))
      · intro k x acc hx hacc w hT
        have hkl : k < c.ids.length := (List.getElem?_eq_some_iff.1 hx).1
        have hm := h2 x (List.mem_of_getElem? hx)
        have hil := itoa_len (n := x) (by omega) (by omega)
        simp only [List.length_singleton] at hacc
        have j4 : ∀ acc2 : List UInt8, acc2 = acc ++ (bif decide (k = 0) then [] else [32]) → acc2.length ≤ acc.length + 1 → Tr (fun m => m_spec_l6Text_j4 m c (k : Int) (mkB acc2)) w := fun acc2 h1 h2 => by
          refine Tr.step (fun m => by rw [m_spec_l6Text_j4]) ?_
          refine Tr.cat (b := [35]) rfl rfl (by simp only [List.length_singleton]; omega) ?_
          refine Tr.eq (fun m => by rw [idx_nat hx, Option.bind_some]) ?_
          refine Tr.bind (dec_tr (by omega) (by omega)) ?_
          refine Tr.cat rfl rfl (by simp only [List.length_append, List.length_singleton]; omega) ?_
          rw [h1]
          unfold idTx at hT
          rw [show acc ++ (bif decide (k = 0) then [] else [32]) ++ [35] ++ itoa x = acc ++ (bif decide (k = 0) then [] else [32]) ++ ([35] ++ itoa x) by simp]
          exact Tr.eq (fun m => by rw [succN]) hT
        refine Tr.step (fun m => by rw [m_spec_l6Text_l3, ltN hkl, cond_true]) ?_
        by_cases hk0 : k = 0
        · exact Tr.ff (decide_eq_false (by omega)) (j4 acc (by rw [decide_eq_true hk0, cond_true, List.append_nil]) (by omega))
        · exact Tr.tt (decide_eq_true (by omega)) (Tr.cat (b := [32]) rfl rfl (by simp only [List.length_singleton]; omega) (j4 _ (by rw [decide_eq_false hk0, cond_false]) (by simp)))
      · intro acc w hT
        exact Tr.step (fun m => by rw [m_spec_l6Text_l3, ltN_self, cond_false]) hT
    · rw [decide_eq_false (show ¬ c.kind = 1 by omega), cond_false, decide_eq_false (show ¬ c.kind = 2 by omega), cond_false, decide_eq_false (show ¬ c.kind = 3 by omega), cond_false, decide_eq_false (show ¬ c.kind = 4 by omega), cond_false, decide_eq_false (show ¬ c.kind = 7 by omega)]
      refine Tr.eq (fun m => by rw [cond_false, cond_false, cond_false, cond_false, cond_false]) ?_
      refine Tr.step (fun m => by rw [m_spec_l6Text_j1, decide_eq_false (show ¬ c.kind = 5 by omega), cond_false]) ?_
      unfold Core.hd
      rw [decide_eq_false (show ¬ c.kind = 5 by omega), cond_false, decide_eq_true h1, cond_true]
      exact kids [40] (by simp)
    · rw [decide_eq_false (show ¬ c.kind = 1 by omega), cond_false, decide_eq_false (show ¬ c.kind = 2 by omega), cond_false, decide_eq_false (show ¬ c.kind = 3 by omega), cond_false, decide_eq_false (show ¬ c.kind = 4 by omega), cond_false, decide_eq_true h1]
      refine Tr.eq (fun m => by rw [cond_false, cond_false, cond_false, cond_false, cond_true]) ?_
      refine Tr.step (fun m => by rw [m_spec_l6Text_j1, decide_eq_false (show ¬ c.kind = 5 by omega), cond_false]) ?_
      unfold Core.hd
      rw [decide_eq_false (show ¬ c.kind = 5 by omega), cond_false, decide_eq_false (show ¬ c.kind = 6 by omega), cond_false]
      exact kids [40, 105, 102, 32] (by simp)
noncomputable def fmtC (c : Core) : ByteArray := bif c.valid then mkB c.tx else (⟨#[]⟩ : ByteArray)
theorem cvalid_isOk {c : Core} (h : c.valid = true) : c.isOk [] 120 = true := by
  unfold Core.valid at h
  rw [Bool.and_eq_true] at h; exact h.1
theorem implFormatCore_tr (c : Core) (hf : c.fit) (hb : c.w ≤ 2 ^ 30) : Tr (fun m => m_impl_FormatCore m c) (fmtC c) := by
  refine Tr.eq (fun m => by unfold m_impl_FormatCore; rfl) ?_
  refine Tr.bind (implCoreValid_tr c hf (by omega)) ?_
  unfold fmtC
  cases hv : c.valid with
  | false => exact Tr.tt rfl Tr.val
  | true => exact Tr.ff rfl (Tr.bind (implCText_n _ c [] 120 (Nat.le_refl _) hb (cvalid_isOk hv)) Tr.val)
theorem specFormatCore_tr (c : Core) (hf : c.fit) (hb : c.w ≤ 2 ^ 30) : Tr (fun m => m_spec_FormatCore m c) (fmtC c) := by
  refine Tr.eq (fun m => by unfold m_spec_FormatCore; rfl) ?_
  refine Tr.bind (specCoreValid_tr c hf (by omega)) ?_
  unfold fmtC
  cases hv : c.valid with
  | false => exact Tr.tt rfl Tr.val
  | true => exact Tr.ff rfl (Tr.bind (specCText_n _ c [] 120 (Nat.le_refl _) hb (cvalid_isOk hv)) Tr.val)
theorem FnExactFormatCore_law (c : Core) (hf : c.fit) : TQ (fun m => m_laws_FnExactFormatCore m c) (fun r => r = true) := by
  refine ⟨true, ?_, rfl⟩
  refine Tr.eq (fun m => by unfold m_laws_FnExactFormatCore; rfl) ?_
  obtain ⟨v, hv, hl⟩ := szCore_tq c 1048576 hf (by decide) (by decide)
  refine Tr.bind hv ?_
  rcases hl with rfl | ⟨h0, rfl⟩
  · exact Tr.tt rfl Tr.val
  refine Tr.ff (geZ h0) ?_
  have hw := c.w_wt
  have hb : c.w ≤ 2 ^ 30 := by omega
  have ht := toCore_tr c (by omega)
  refine Tr.bind ht (Tr.bind (specFormatCore_tr c hf hb) (Tr.bind ht (Tr.bind (implFormatCore_tr c hf hb) ?_)))
  refine Tr.ff (decide_eq_false (fun h => h rfl)) (Tr.bind ht (Tr.bind (eqCore_tr c c) ?_))
  rw [same_self]
  exact Tr.ff rfl Tr.val
end Go.Abs
end
