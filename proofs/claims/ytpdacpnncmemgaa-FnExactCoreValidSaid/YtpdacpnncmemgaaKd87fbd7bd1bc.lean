/- A part of the proof: what the functions that the law calls answer, as pure values. -/
import Derived.Test.YtpdacpnncmemgaaK117e6fc33c49
import Derived.Test.YtpdacpnncmemgaaK1cbb0b66008f
import Derived.Test.YtpdacpnncmemgaaKc9888d8427ea
set_option linter.unusedSimpArgs false
set_option linter.unusedVariables false
section
set_option linter.unusedVariables false
set_option linter.unusedSimpArgs false
set_option maxHeartbeats 4000000
namespace Go.Abs
def kidsOk (k : Int) (n : Int) : Bool :=
  bif (decide (k = 1) || (decide (k = 2) || (decide (k = 3) || decide (k = 4)))) then decide (n = 0)
  else bif decide (k = 5) then decide (n = 1) else bif decide (k = 6) then decide (1 ≤ n) else bif decide (k = 7) then decide (n = 3) else false
theorem l6Kids_tr (k n : Int) : Tr (fun m => m_spec_l6Kids m k n) (kidsOk k n) := by
  have j : ∀ b, b = (decide (k = 1) || (decide (k = 2) || (decide (k = 3) || decide (k = 4)))) → Tr (fun m => m_spec_l6Kids_j1 m k n b) (kidsOk k n) := by
    intro b hb
    refine Tr.step (fun m => by rw [m_spec_l6Kids_j1]) ?_
    unfold kidsOk
    rw [← hb]
    cases b with
    | true => exact Tr.tt rfl Tr.val
    | false =>
    refine Tr.ff rfl ?_
    rw [cond_false]
    cases decide (k = 5) with
    | true => exact Tr.tt rfl Tr.val
    | false =>
    refine Tr.ff rfl ?_
    rw [cond_false]
    cases decide (k = 6) with
    | true => exact Tr.tt rfl Tr.val
    | false =>
    refine Tr.ff rfl ?_
    rw [cond_false]
    cases decide (k = 7) with
    | true => exact Tr.tt rfl Tr.val
    | false => exact Tr.ff rfl Tr.val
  refine Tr.eq (fun m => by unfold m_spec_l6Kids; rfl) ?_
  cases h1 : decide (k = 1) with
  | true => exact Tr.tt rfl (j _ (by rw [h1]; rfl))
  | false =>
  refine Tr.ff rfl ?_
  cases h2 : decide (k = 2) with
  | true => exact Tr.tt rfl (j _ (by rw [h1, h2]; rfl))
  | false =>
  refine Tr.ff rfl ?_
  cases h3 : decide (k = 3) with
  | true => exact Tr.tt rfl (j _ (by rw [h1, h2, h3]; rfl))
  | false => exact Tr.ff rfl (j _ (by rw [h1, h2, h3]; rfl))
noncomputable def Core.fl4 (c : Core) : Bool := bif decide (c.kind = 5) then true else decide ((c.ids.length : Int) = 0)
noncomputable def Core.fl3 (c : Core) : Bool := (bif decide (c.kind = 4) then c.data.valid && noScs c.data else same c.data form0) && c.fl4
noncomputable def Core.fl2 (c : Core) : Bool := (bif decide (c.kind = 3) then decide (0 ≤ c.n) && decide (c.n ≤ 999) else decide (c.n = 0)) && c.fl3
noncomputable def Core.fl1 (c : Core) : Bool := (bif decide (c.kind = 2) then nmOk c.name else decide (c.name = e0)) && c.fl2
noncomputable def Core.fl (c : Core) : Bool := (bif decide (c.kind = 1) then decide (1 ≤ c.id) && decide (c.id ≤ 999) else decide (c.id = 0)) && c.fl1
theorem fl4_tr (c : Core) (b : Bool) : Tr (fun m => m_spec_l6Fields_j4 m c b) (!b && c.fl4) := by
  refine Tr.step (fun m => by rw [m_spec_l6Fields_j4]) ?_
  cases b with
  | true => exact Tr.tt rfl Tr.val
  | false =>
  refine Tr.ff rfl ?_
  unfold Core.fl4
  cases decide (c.kind = 5) with
  | true => exact Tr.tt rfl Tr.val
  | false => exact Tr.ff rfl Tr.val
theorem fl3_tr (c : Core) (hf : c.data.fit) (hb : c.data.w ≤ 2 ^ 36) : Tr (fun m => m_spec_l6Fields_j3 m c) c.fl3 := by
  refine Tr.step (fun m => by rw [m_spec_l6Fields_j3]) ?_
  unfold Core.fl3
  by_cases k4 : c.kind = 4
  · refine Tr.tt (decide_eq_true k4) (Tr.bind (specFormValid_tr _ hf hb) ?_)
    rw [decide_eq_true k4, cond_true]
    cases c.data.valid with
    | false => exact Tr.tt rfl (fl4_tr c true)
    | true =>
    refine Tr.ff rfl ?_
    have hs := stripSame_tr c.data hb
    obtain ⟨N, hN⟩ := hs
    have h2 : Tr (fun m => (m_spec_StripForm m c.data).bind fun v28 => (m_spec_FormSame m v28 c.data).bind fun v29 => bif !v29 then m_spec_l6Fields_j4 m c true else bif decide (c.kind ≠ 4) then (m_spec_FormSame m c.data (Form.mk 0 (⟨#[]⟩ : ByteArray) 0 ([] : List Int) ([] : List Form))).bind fun v32 => m_spec_l6Fields_j4 m c (!v32) else m_spec_l6Fields_j4 m c false) (true && noScs c.data && c.fl4) := by
      refine Tr.eq (G := fun m => ((m_spec_StripForm m c.data).bind fun v => m_spec_FormSame m v c.data).bind fun v29 => bif !v29 then m_spec_l6Fields_j4 m c true else bif decide (c.kind ≠ 4) then (m_spec_FormSame m c.data (Form.mk 0 (⟨#[]⟩ : ByteArray) 0 ([] : List Int) ([] : List Form))).bind fun v32 => m_spec_l6Fields_j4 m c (!v32) else m_spec_l6Fields_j4 m c false) (fun m => by rw [Option.bind_assoc]) (Tr.bind ⟨N, hN⟩ ?_)
      cases noScs c.data with
      | false => exact Tr.tt rfl (fl4_tr c true)
      | true => exact Tr.ff rfl (Tr.ff (decide_eq_false (fun h => h k4)) (by simpa using fl4_tr c false))
    exact h2
  · refine Tr.ff (decide_eq_false k4) (Tr.tt (decide_eq_true k4) (Tr.bind (specFormSame_tr _ _) ?_))
    rw [decide_eq_false k4, cond_false]
    simpa using fl4_tr c (!same c.data form0)
theorem fl2_tr (c : Core) (hf : c.data.fit) (hb : c.data.w ≤ 2 ^ 36) : Tr (fun m => m_spec_l6Fields_j2 m c) c.fl2 := by
  refine Tr.step (fun m => by rw [m_spec_l6Fields_j2]) ?_
  unfold Core.fl2
  by_cases k : c.kind = 3
  · refine Tr.tt (decide_eq_true k) ?_
    rw [decide_eq_true k, cond_true]
    by_cases h1 : c.n < 0
    · refine Tr.tt (decide_eq_true h1) ?_
      rw [decide_eq_false (show ¬ 0 ≤ c.n by omega)]; exact Tr.val
    refine Tr.ff (decide_eq_false h1) ?_
    rw [decide_eq_true (show 0 ≤ c.n by omega), Bool.true_and]
    by_cases h2 : 999 < c.n
    · refine Tr.tt (decide_eq_true h2) ?_
      rw [decide_eq_false (show ¬ c.n ≤ 999 by omega)]; exact Tr.val
    refine Tr.ff (decide_eq_false h2) ?_
    rw [decide_eq_true (show c.n ≤ 999 by omega), Bool.true_and]
    exact Tr.ff (decide_eq_false (fun h => h k)) (fl3_tr c hf hb)
  · refine Tr.ff (decide_eq_false k) (Tr.tt (decide_eq_true k) ?_)
    rw [decide_eq_false k, cond_false]
    by_cases h1 : c.n = 0
    · refine Tr.ff (decide_eq_false (fun h => h h1)) ?_
      rw [decide_eq_true h1, Bool.true_and]; exact fl3_tr c hf hb
    · refine Tr.tt (decide_eq_true h1) ?_
      rw [decide_eq_false h1]; exact Tr.val
theorem fl1_tr (c : Core) (hf : c.data.fit) (hb : c.data.w ≤ 2 ^ 36) : Tr (fun m => m_spec_l6Fields_j1 m c) c.fl1 := by
  refine Tr.step (fun m => by rw [m_spec_l6Fields_j1]) ?_
  unfold Core.fl1
  by_cases k : c.kind = 2
  · refine Tr.tt (decide_eq_true k) (Tr.bind (specNm_tr _) ?_)
    rw [decide_eq_true k, cond_true]
    cases nmOk c.name with
    | false => exact Tr.tt rfl Tr.val
    | true => exact Tr.ff rfl (Tr.ff (decide_eq_false (fun h => h k)) (by simpa using fl2_tr c hf hb))
  · refine Tr.ff (decide_eq_false k) (Tr.tt (decide_eq_true k) ?_)
    rw [decide_eq_false k, cond_false]
    by_cases h1 : c.name = e0
    · refine Tr.ff (decide_eq_false (fun h => h h1)) ?_
      rw [decide_eq_true h1, Bool.true_and]; exact fl2_tr c hf hb
    · refine Tr.tt (decide_eq_true h1) ?_
      rw [decide_eq_false h1]; exact Tr.val
theorem fl_tr (c : Core) (hf : c.data.fit) (hb : c.data.w ≤ 2 ^ 36) : Tr (fun m => m_spec_l6Fields m c) c.fl := by
  refine Tr.eq (fun m => by unfold m_spec_l6Fields; rfl) ?_
  unfold Core.fl
  by_cases k : c.kind = 1
  · refine Tr.tt (decide_eq_true k) ?_
    rw [decide_eq_true k, cond_true]
    by_cases h1 : c.id < 1
    · refine Tr.tt (decide_eq_true h1) ?_
      rw [decide_eq_false (show ¬ 1 ≤ c.id by omega)]; exact Tr.val
    refine Tr.ff (decide_eq_false h1) ?_
    rw [decide_eq_true (show 1 ≤ c.id by omega), Bool.true_and]
    by_cases h2 : 999 < c.id
    · refine Tr.tt (decide_eq_true h2) ?_
      rw [decide_eq_false (show ¬ c.id ≤ 999 by omega)]; exact Tr.val
    refine Tr.ff (decide_eq_false h2) ?_
    rw [decide_eq_true (show c.id ≤ 999 by omega), Bool.true_and]
    exact Tr.ff (decide_eq_false (fun h => h k)) (fl1_tr c hf hb)
  · refine Tr.ff (decide_eq_false k) (Tr.tt (decide_eq_true k) ?_)
    rw [decide_eq_false k, cond_false]
    by_cases h1 : c.id = 0
    · refine Tr.ff (decide_eq_false (fun h => h h1)) ?_
      rw [decide_eq_true h1, Bool.true_and]; exact fl1_tr c hf hb
    · refine Tr.tt (decide_eq_true h1) ?_
      rw [decide_eq_false h1]; exact Tr.val
theorem okF_eq (c : Core) (ar : List Int) : c.okF ar = (kidsOk c.kind (c.kids.length : Int) && (c.fl && ((bif decide (c.kind = 1) then hasB ar c.id else true) && idsOk ar c.ids))) := by
  have hid : ∀ ar, c.ids = [] → idsOk ar c.ids = true := fun ar h => by rw [h]; rfl
  have hl : decide ((c.ids.length : Int) = 0) = decide (c.ids = []) := by
    rw [Bool.eq_iff_iff, decide_eq_true_iff, decide_eq_true_iff]
    exact ⟨fun h => List.eq_nil_of_length_eq_zero (by omega), fun h => by rw [h]; rfl⟩
  unfold Core.okF kidsOk Core.fl Core.fl1 Core.fl2 Core.fl3 Core.fl4 lenI
  rw [hl]
  by_cases hn : c.ids = []
  · rw [hid ar hn]
    rw [decide_eq_true hn]
    by_cases k1 : c.kind = 1
    · simp only [k1, Int.reduceEq, decide_true, decide_false, cond_true, cond_false, Bool.or_true, Bool.true_or, Bool.or_false, Bool.and_true, Bool.true_and]
      generalize (decide (1 ≤ c.id) && decide (c.id ≤ 999)) = p1; generalize hasB ar c.id = p2; generalize decide (c.name = e0) = p3; generalize decide (c.n = 0) = p4; generalize same c.data form0 = p5; generalize decide ((c.kids.length : Int) = 0) = p6
      revert p1 p2 p3 p4 p5 p6; decide
    by_cases k2 : c.kind = 2
    · simp only [k2, Int.reduceEq, decide_true, decide_false, cond_true, cond_false, Bool.or_true, Bool.true_or, Bool.or_false, Bool.false_or, Bool.and_true, Bool.true_and]
      generalize nmOk c.name = p1; generalize decide (c.id = 0) = p3; generalize decide (c.n = 0) = p4; generalize same c.data form0 = p5; generalize decide ((c.kids.length : Int) = 0) = p6
      revert p1 p3 p4 p5 p6; decide
    by_cases k3 : c.kind = 3
    · simp only [k3, Int.reduceEq, decide_true, decide_false, cond_true, cond_false, Bool.or_true, Bool.true_or, Bool.or_false, Bool.false_or, Bool.and_true, Bool.true_and]
      generalize (decide (0 ≤ c.n) && decide (c.n ≤ 999)) = p1; generalize decide (c.id = 0) = p3; generalize decide (c.name = e0) = p4; generalize same c.data form0 = p5; generalize decide ((c.kids.length : Int) = 0) = p6
      revert p1 p3 p4 p5 p6; decide
    by_cases k4 : c.kind = 4
    · simp only [k4, Int.reduceEq, decide_true, decide_false, cond_true, cond_false, Bool.or_true, Bool.true_or, Bool.or_false, Bool.false_or, Bool.and_true, Bool.true_and]
      generalize (c.data.valid && noScs c.data) = p1; generalize decide (c.id = 0) = p3; generalize decide (c.name = e0) = p4; generalize decide (c.n = 0) = p5; generalize decide ((c.kids.length : Int) = 0) = p6
      revert p1 p3 p4 p5 p6; decide
    by_cases k5 : c.kind = 5
    · simp only [k5, Int.reduceEq, decide_true, decide_false, cond_true, cond_false, Bool.or_true, Bool.true_or, Bool.or_false, Bool.false_or, Bool.and_true, Bool.true_and]
      generalize decide (c.id = 0) = p3; generalize decide (c.name = e0) = p4; generalize decide (c.n = 0) = p5; generalize decide ((c.kids.length : Int) = 1) = p6; generalize same c.data form0 = p7
      revert p3 p4 p5 p6 p7; decide
    by_cases k6 : c.kind = 6
    · simp only [k6, Int.reduceEq, decide_true, decide_false, cond_true, cond_false, Bool.or_true, Bool.true_or, Bool.or_false, Bool.false_or, Bool.and_true, Bool.true_and]
      generalize decide (c.id = 0) = p3; generalize decide (c.name = e0) = p4; generalize decide (c.n = 0) = p5; generalize decide (1 ≤ (c.kids.length : Int)) = p6; generalize same c.data form0 = p7
      revert p3 p4 p5 p6 p7; decide
    by_cases k7 : c.kind = 7
    · simp only [k7, Int.reduceEq, decide_true, decide_false, cond_true, cond_false, Bool.or_true, Bool.true_or, Bool.or_false, Bool.false_or, Bool.and_true, Bool.true_and]
      generalize decide (c.id = 0) = p3; generalize decide (c.name = e0) = p4; generalize decide (c.n = 0) = p5; generalize decide ((c.kids.length : Int) = 3) = p6; generalize same c.data form0 = p7
      revert p3 p4 p5 p6 p7; decide
    simp only [k1, k2, k3, k4, k5, k6, k7, decide_false, cond_false, Bool.or_false, Bool.false_and]
  · rw [decide_eq_false hn]
    by_cases k5 : c.kind = 5
    · simp only [k5, Int.reduceEq, decide_true, decide_false, cond_true, cond_false, Bool.or_true, Bool.true_or, Bool.or_false, Bool.false_or, Bool.and_true, Bool.true_and]
      generalize decide (c.id = 0) = p3; generalize decide (c.name = e0) = p4; generalize decide (c.n = 0) = p5; generalize decide ((c.kids.length : Int) = 1) = p6; generalize same c.data form0 = p7; generalize idsOk ar c.ids = p8
      revert p3 p4 p5 p6 p7 p8; decide
    · simp only [k5, decide_false, cond_false, Bool.and_false, Bool.false_and]
      cases decide (c.kind = 1) <;> cases decide (c.kind = 2) <;> cases decide (c.kind = 3) <;> cases decide (c.kind = 4) <;> cases decide (c.kind = 6) <;> cases decide (c.kind = 7) <;> rfl
theorem l6Is_n : ∀ (n : Nat) (c : Core) (ar : List Int) (d : Nat), c.w ≤ n → c.fit → ar.length + c.w ≤ 2 ^ 36 → d ≤ 120 → Tr (fun m => m_spec_l6Is m c ar (d : Int)) (c.isOk ar d) := by
  intro n
  induction n with
  | zero => intro c ar d h; have := c.w_pos; omega
  | succ n ih =>
    intro c ar d h hf hb hd
    obtain ⟨f1, f2, f3, f4, f5⟩ := hf.parts
    have hw := c.w_kids
    rw [Core.isOk_eq, okF_eq]
    refine Tr.step (fun m => by rw [m_spec_l6Is]) ?_
    by_cases hd0 : d = 0
    · refine Tr.tt (decide_eq_true (by omega)) ?_
      rw [decide_eq_true hd0]; exact Tr.val
    refine Tr.ff (decide_eq_false (by omega)) (Tr.bind (l6Kids_tr _ _) ?_)
    rw [decide_eq_false hd0, cond_false]
    cases kidsOk c.kind (c.kids.length : Int) with
    | false => exact Tr.tt rfl Tr.val
    | true =>
    refine Tr.ff rfl (Tr.bind (fl_tr c f3 (by omega)) ?_)
    cases c.fl with
    | false => exact Tr.tt rfl Tr.val
    | true =>
    refine Tr.ff rfl ?_
    rw [Bool.true_and, Bool.true_and]
    have e : ((d : Int) - 1) = ((d - 1 : Nat) : Int) := by omega
    have rest : Tr (fun m => m_spec_l6Is_j1 m c ar (d : Int)) (idsOk ar c.ids && alls (fun x => x.isOk (ar ++ c.ids) (d - 1)) c.kids) := by
      refine Tr.step (fun m => by rw [m_spec_l6Is_j1]) ?_
      have key := drop_ind c.ids (fun k zs => ∀ inn : List Int, inn = ar ++ c.ids.take k → Tr (fun m => m_spec_l6Is_l3 m c (d : Int) inn (k : Int)) (idsOk inn zs && alls (fun x => x.isOk (ar ++ c.ids) (d - 1)) c.kids)) ?_ ?_ 0 (Nat.zero_le _) ar (by simp)
      · simpa using key
      · intro inn hinn
        rw [List.take_length] at hinn
        refine Tr.step (fun m => by rw [m_spec_l6Is_l3, ltN_self, cond_false]) (Tr.step (fun m => by rw [m_spec_l6Is_j2]) ?_)
        rw [hinn, idsOk, Bool.true_and]
        have := loop_all (xs := c.kids) (c := true) (D := fun x => x.isOk (ar ++ c.ids) (d - 1)) (L := fun m k => m_spec_l6Is_l5 m c (d : Int) (ar ++ c.ids) k) (E := fun m x => m_spec_l6Is m x (ar ++ c.ids) (w64 ((d : Int) - 1))) (fun m k => by rw [m_spec_l6Is_l5]) (fun x hx => by
          have := Core.ws_mem hx
          rw [w64_in (by omega), e]; exact ih x (ar ++ c.ids) (d - 1) (by omega) (Core.fits_mem f5 hx) (by simp; omega) (by omega))
        simpa using this
      · intro k x zs hk hx hdr ihk inn hinn
        have hil : inn.length ≤ ar.length + c.ids.length := by rw [hinn]; simp; omega
        refine Tr.step (fun m => by rw [m_spec_l6Is_l3, ltN hk, cond_true, idx_nat hx, Option.bind_some]) ?_
        rw [idsOk]
        have j : ∀ b, Tr (fun m => m_spec_l6Is_j4 m c (d : Int) inn (k : Int) b) (!b && (idsOk (inn ++ [x]) zs && alls (fun x => x.isOk (ar ++ c.ids) (d - 1)) c.kids)) := by
          intro b
          cases b with
          | true => exact Tr.step (fun m => by rw [m_spec_l6Is_j4, cond_true]; rfl) Tr.val
          | false =>
          refine Tr.step (fun m => by rw [m_spec_l6Is_j4, cond_false, idx_nat hx, Option.bind_some, succN]) (Tr.chk (by simp; omega) (Tr.chk (by simp; omega) ?_))
          refine ihk (inn ++ [x]) ?_
          rw [hinn, List.take_add_one, hx, List.append_assoc]; rfl
        by_cases h1 : x < 1
        · refine Tr.tt (decide_eq_true h1) ?_
          rw [decide_eq_false (show ¬ 1 ≤ x by omega)]; exact j true
        refine Tr.ff (decide_eq_false h1) (Tr.eq (fun m => by rw [Option.bind_some]) ?_)
        rw [decide_eq_true (show 1 ≤ x by omega), Bool.true_and]
        by_cases h2 : 999 < x
        · refine Tr.tt (decide_eq_true h2) ?_
          rw [decide_eq_false (show ¬ x ≤ 999 by omega)]; exact j true
        refine Tr.ff (decide_eq_false h2) (Tr.eq (fun m => by rw [Option.bind_some]) (Tr.bind (l2Has_tr _ _) ?_))
        rw [decide_eq_true (show x ≤ 999 by omega), Bool.true_and, Bool.and_assoc]
        exact j _
    by_cases k1 : c.kind = 1
    · refine Tr.tt (decide_eq_true k1) (Tr.bind (l2Has_tr _ _) ?_)
      rw [decide_eq_true k1, cond_true]
      cases hasB ar c.id with
      | false => exact Tr.tt rfl Tr.val
      | true => exact Tr.ff rfl (by simpa using rest)
    · refine Tr.ff (decide_eq_false k1) ?_
      rw [decide_eq_false k1, cond_false, Bool.true_and]; exact rest
theorem l6Count_n : ∀ (n : Nat) (f : Core), f.w ≤ n → f.w ≤ 2 ^ 36 → Tr (fun m => m_spec_l6Count m f) (f.cnt : Int) := by
  intro n
  induction n with
  | zero => intro a h; have := a.w_pos; omega
  | succ n ih =>
    intro f h hb
    have hw := f.w_kids
    have hc := Core.cnts_ws f.kids
    refine Tr.step (fun m => by rw [m_spec_l6Count]) ?_
    have key := drop_ind f.kids (fun k zs => ∀ g : Nat, g + Core.ws zs ≤ 2 ^ 37 → Tr (fun m => m_spec_l6Count_l1 m f (g : Int) (k : Int)) ((g + Core.cnts zs : Nat) : Int)) ?_ ?_ 0 (Nat.zero_le _) 1 (by simp; omega)
    · rw [Core.cnt_eq]; simpa using key
    · intro g hg
      exact Tr.step (fun m => by rw [m_spec_l6Count_l1, ltN_self, cond_false]; simp [Core.cnts]) Tr.val
    · intro k x zs hk hx hd ihk g hg
      have hm := List.mem_of_getElem? hx
      have hxw := Core.ws_mem hm
      have hcx := Core.cnt_w x
      rw [Core.ws] at hg
      refine Tr.step (fun m => by rw [m_spec_l6Count_l1, ltN hk, cond_true, idx_nat hx, Option.bind_some, succN]) ?_
      refine Tr.bind (ih x (by omega) (by omega)) ?_
      refine Tr.eq (fun m => by rw [w64_in (by omega), show (g : Int) + (x.cnt : Int) = ((g + x.cnt : Nat) : Int) by omega]) ?_
      rw [Core.cnts, ← Nat.add_assoc]
      exact ihk _ (by omega)
theorem specCoreValid_tr (f : Core) (hf : f.fit) (hb : f.w ≤ 2 ^ 36) : Tr (fun m => m_spec_CoreValid m f) f.valid := by
  refine Tr.eq (fun m => by unfold m_spec_CoreValid; rfl) (Tr.bind (l6Is_n _ f [] 120 (Nat.le_refl _) hf (by simpa using hb) (by omega)) ?_)
  unfold Core.valid
  cases f.isOk [] 120 with
  | false => exact Tr.ff rfl Tr.val
  | true =>
    refine Tr.tt rfl (Tr.bind (l6Count_n _ f (Nat.le_refl _) hb) (Tr.of fun m => ?_))
    rw [Bool.true_and]; congr 1
    rw [Bool.eq_iff_iff, decide_eq_true_iff, decide_eq_true_iff]; omega
mutual
def Core.wt : Core → Nat
  | .mk _ _ name _ ids data kids => name.size + ids.length + data.wt + Core.wts kids
def Core.wts : List Core → Nat
  | [] => 0
  | f :: fs => f.wt + 1 + Core.wts fs
end
theorem Core.wt_parts (f : Core) : f.wt = f.name.size + f.ids.length + f.data.wt + Core.wts f.kids := by obtain ⟨a, b, c, d, e, g, h⟩ := f; rw [Core.wt]; rfl
mutual
theorem Core.w_wt : ∀ f : Core, f.w ≤ 2 + 3 * f.wt
  | .mk a b c d e f g => by have := Core.ws_wts g; have := f.w_wt; rw [Core.w, Core.wt]; omega
theorem Core.ws_wts : ∀ l : List Core, Core.ws l ≤ 3 * Core.wts l
  | [] => by simp [Core.ws, Core.wts]
  | f :: fs => by have := Core.w_wt f; have := Core.ws_wts fs; rw [Core.ws, Core.wts]; omega
end
theorem szCoreS_of {l : List Core} {v : Int} (hl : l.length ≤ 9223372036854775807) (h0 : 0 ≤ v) (h1 : v ≤ 2 ^ 40) (ih : ∀ x ∈ l, ∀ v : Int, 0 ≤ v → v ≤ 2 ^ 40 → TQ (fun m => m_laws_szCore m x v) (Left v x.wt)) : TQ (fun m => m_laws_szCoreS m l v) (Left v (Core.wts l)) := by
  refine TQ.step (fun m => by rw [m_laws_szCoreS, w64_in (by omega)]) ?_
  refine TQ.cond (fun _ => TQ.val (.inl rfl)) (fun h => ?_)
  replace h : 0 ≤ v - (l.length : Int) := by simpa using h
  have key := drop_ind l (fun k zs => ∀ g : Int, 0 ≤ g → g ≤ 2 ^ 40 → TQ (fun m => m_laws_szCoreS_l1 m l g (k : Int)) (fun r => r = -1 ∨ (0 ≤ r ∧ r = g - Core.wts zs + zs.length))) ?_ ?_ 0 (Nat.zero_le _) _ h (by omega)
  · refine TQ.mono (by simpa using key) (fun r hr => ?_)
    rcases hr with hr | ⟨hr, he⟩
    · exact .inl hr
    · exact .inr ⟨hr, by rw [he]; omega⟩
  · intro g hg _
    exact TQ.step (fun m => by rw [m_laws_szCoreS_l1, ltN_self, cond_false]) (TQ.val (.inr ⟨hg, by simp [Core.wts]⟩))
  · intro k x zs hk hx hd ihk g hg hg1
    refine TQ.step (fun m => by rw [m_laws_szCoreS_l1, ltN hk, cond_true, idx_nat hx, Option.bind_some, succN]) ?_
    have hm := List.mem_of_getElem? hx
    refine TQ.bind (ih x hm g hg hg1) (fun r hr => ?_)
    rcases hr with rfl | ⟨hr, rfl⟩
    · exact TQ.cond (fun _ => TQ.val (.inl rfl)) (fun h => absurd h (by decide))
    refine TQ.cond (fun h => absurd h (by rw [geZ hr]; decide)) (fun _ => ?_)
    refine TQ.mono (ihk _ hr (by omega)) (fun r hr => ?_)
    rcases hr with hr | ⟨hr, he⟩
    · exact .inl hr
    · exact .inr ⟨hr, by rw [he, Core.wts, List.length_cons]; omega⟩
theorem szCore_n : ∀ (n : Nat) (f : Core) (v : Int), f.w ≤ n → f.fit → 0 ≤ v → v ≤ 2 ^ 40 → TQ (fun m => m_laws_szCore m f v) (Left v f.wt) := by
  intro n
  induction n with
  | zero => intro a v h; have := a.w_pos; omega
  | succ n ih =>
    intro f v h hf h0 h1
    obtain ⟨f1, f2, f3, f4, f5⟩ := hf.parts
    have hw := f.w_kids
    have hwt := f.wt_parts
    refine TQ.step (fun m => by rw [m_laws_szCore, w64_in (by omega)]) ?_
    refine TQ.cond (fun _ => TQ.val (.inl rfl)) (fun h => ?_)
    replace h : 0 ≤ v - (f.name.size : Int) := by simpa using h
    refine TQ.bind (szIntS_tq _ _ f2 h (by omega)) (fun v2 h2 => ?_)
    rcases h2 with rfl | ⟨h2, rfl⟩
    · exact TQ.cond (fun _ => TQ.val (.inl rfl)) (fun h => absurd h (by decide))
    refine TQ.cond (fun h => absurd h (by rw [geZ h2]; decide)) (fun _ => ?_)
    refine TQ.bind (szForm_tq _ _ f3 h2 (by omega)) (fun v4 h4 => ?_)
    rcases h4 with rfl | ⟨h4, rfl⟩
    · exact TQ.cond (fun _ => TQ.val (.inl rfl)) (fun h => absurd h (by decide))
    refine TQ.cond (fun h => absurd h (by rw [geZ h4]; decide)) (fun _ => ?_)
    refine TQ.bind (szCoreS_of (l := f.kids) f4 h4 (by omega) (fun x hx v h0 h1 => ih x v (by have := Core.ws_mem hx; omega) (Core.fits_mem f5 hx) h0 h1)) (fun r hr => ?_)
    rcases hr with rfl | ⟨hr, rfl⟩
    · exact TQ.cond (fun _ => TQ.val (.inl rfl)) (fun h => absurd h (by decide))
    exact TQ.cond (fun h => absurd h (by rw [geZ hr]; decide)) (fun _ => TQ.val (.inr ⟨hr, by omega⟩))
theorem szCore_tq (f : Core) (v : Int) (hf : f.fit) (h0 : 0 ≤ v) (h1 : v ≤ 2 ^ 40) : TQ (fun m => m_laws_szCore m f v) (Left v f.wt) := szCore_n _ f v (Nat.le_refl _) hf h0 h1
theorem toCore_n : ∀ (n : Nat) (f : Core), f.w ≤ n → f.w ≤ 2 ^ 36 → Tr (fun m => m_laws_toCore m f) f := by
  intro n
  induction n with
  | zero => intro a h; have := a.w_pos; omega
  | succ n ih =>
    intro f h hb
    have hw := f.w_kids
    have hl := Core.ws_len f.kids
    refine Tr.step (fun m => by rw [m_laws_toCore]) (Tr.bind (toIntS_tr f.ids (by omega)) (Tr.bind (toForm_tr f.data (by omega)) (Tr.bind (v := f.kids) ?_ ?_)))
    · refine Tr.step (fun m => by rw [m_laws_toCoreS]) (Tr.chk (by simp; omega) ?_)
      have := loop_copy (xs := f.kids) (z := Core.mk 0 0 (⟨#[]⟩ : ByteArray) 0 ([] : List Int) (Form.mk 0 (⟨#[]⟩ : ByteArray) 0 ([] : List Int) ([] : List Form)) ([] : List Core)) (f := fun x => x) (L := fun m k acc => m_laws_toCoreS_l1 m f.kids k acc) (E := fun m a => m_laws_toCore m a) (fun m k acc => by rw [m_laws_toCoreS_l1]) (fun a ha => ih a (by have := Core.ws_mem ha; omega) (by have := Core.ws_mem ha; omega))
      simpa using this
    · obtain ⟨a, b, c, d, e, g, h⟩ := f; exact Tr.val
theorem toCore_tr (f : Core) (hb : f.w ≤ 2 ^ 36) : Tr (fun m => m_laws_toCore m f) f := toCore_n _ f (Nat.le_refl _) hb
theorem eqCore_n : ∀ (n : Nat) (a b : Core), a.w ≤ n → Tr (fun m => m_laws_eqCore m a b) (same a b) := by
  intro n
  induction n with
  | zero => intro a b h; have := a.w_pos; omega
  | succ n ih =>
    intro a b h
    have hw := a.w_kids
    rw [core_same]
    refine Tr.step (fun m => by rw [m_laws_eqCore]) ?_
    by_cases h1 : a.kind = b.kind
    case neg => rw [decide_eq_false h1]; exact Tr.tt (decide_eq_true h1) Tr.val
    rw [decide_eq_true h1]
    refine Tr.ff (decide_eq_false (fun h => h h1)) ?_
    by_cases h2 : a.id = b.id
    case neg => rw [decide_eq_false h2]; exact Tr.tt (decide_eq_true h2) Tr.val
    rw [decide_eq_true h2]
    refine Tr.ff (decide_eq_false (fun h => h h2)) ?_
    by_cases h3 : a.name = b.name
    case neg => rw [decide_eq_false h3]; exact Tr.tt (decide_eq_true h3) Tr.val
    rw [decide_eq_true h3]
    refine Tr.ff (decide_eq_false (fun h => h h3)) ?_
    by_cases h4 : a.n = b.n
    case neg => rw [decide_eq_false h4]; exact Tr.tt (decide_eq_true h4) Tr.val
    rw [decide_eq_true h4]
    refine Tr.ff (decide_eq_false (fun h => h h4)) (Tr.bind (eqIntS_tr _ _) ?_)
    cases same a.ids b.ids with
    | false => exact Tr.tt rfl Tr.val
    | true =>
    refine Tr.ff rfl (Tr.bind (eqForm_tr _ _) ?_)
    cases same a.data b.data with
    | false => exact Tr.tt rfl Tr.val
    | true =>
    refine Tr.ff rfl (Tr.bind (v := same a.kids b.kids) ?_ ?_)
    · refine Tr.step (fun m => by rw [m_laws_eqCoreS]) ?_
      by_cases hl : a.kids.length = b.kids.length
      · exact Tr.ff (lenE hl) (loop_eq hl (L := fun m k => m_laws_eqCoreS_l1 m a.kids b.kids k) (E := fun m x y => m_laws_eqCore m x y) (fun m k => by rw [m_laws_eqCoreS_l1]) (fun x hx y _ => ih x y (by have := Core.ws_mem hx; omega)))
      · rw [same_len hl]; exact Tr.tt (lenB hl) Tr.val
    · cases same a.kids b.kids with
      | false => exact Tr.tt rfl Tr.val
      | true => exact Tr.ff rfl Tr.val
theorem eqCore_tr (a b : Core) : Tr (fun m => m_laws_eqCore m a b) (same a b) := eqCore_n _ a b (Nat.le_refl _)
theorem FnExactCoreValid_law (c : Core) (hf : c.fit) : TQ (fun m => m_laws_FnExactCoreValid m c) (fun r => r = true) := by
  refine ⟨true, ?_, rfl⟩
  refine Tr.eq (fun m => by unfold m_laws_FnExactCoreValid; rfl) ?_
  obtain ⟨v, hv, hl⟩ := szCore_tq c 1048576 hf (by decide) (by decide)
  refine Tr.bind hv ?_
  rcases hl with rfl | ⟨h0, rfl⟩
  · exact Tr.tt rfl Tr.val
  refine Tr.ff (geZ h0) ?_
  have hw := c.w_wt
  have hb : c.w ≤ 2 ^ 36 := by omega
  refine Tr.bind (toCore_tr c hb) (Tr.bind (specCoreValid_tr c hf hb) (Tr.bind (toCore_tr c hb) (Tr.bind (implCoreValid_tr c hf hb) ?_)))
  refine Tr.ff (decide_eq_false (fun h => h rfl)) (Tr.bind (toCore_tr c hb) (Tr.bind (eqCore_tr c c) ?_))
  rw [same_self]
  exact Tr.ff rfl Tr.val
end Go.Abs
end
