/- A part of the proof: what the functions that the law calls answer, as pure values. -/
import Derived.Test.YtpdacpnncmemgaaK0b7006a29a35
import Derived.Test.YtpdacpnncmemgaaK39cb63bc6596
import Derived.Test.YtpdacpnncmemgaaK4e64d588acff
import Derived.Test.YtpdacpnncmemgaaKb6a9392c4a86
set_option linter.unusedSimpArgs false
set_option linter.unusedVariables false
section
set_option linter.unusedVariables false
set_option linter.unusedSimpArgs false
set_option maxHeartbeats 4000000
namespace Go.Abs
def kidsOk (k : Int) (n : Int) : Bool :=
  bif (decide (k = 1) || (decide (k = 2) || (decide (k = 3) || decide (k = 4)))) then decide (n = 0)
  else bif decide (k = 5) then decide (n = 1) else bif decide (k = 6) then decide (1 ≤ n) else bif decide (k = 7) then decide (n = 3) else false
theorem l6Kids_tr (k n : Int) : Tr (fun m => m_spec_l6Kids m k n) (kidsOk k n) := by
  have j : ∀ b, b = (decide (k = 1) || (decide (k = 2) || (decide (k = 3) || decide (k = 4)))) → Tr (fun m => m_spec_l6Kids_j1 m k n b) (kidsOk k n) := by
    intro b hb
    refine Tr.step (fun m => by rw [m_spec_l6Kids_j1]) ?_
    unfold kidsOk
    rw [← hb]
    cases b with
    | true => exact Tr.tt rfl Tr.val
    | false =>
    refine Tr.ff rfl ?_
    rw [cond_false]
    cases decide (k = 5) with
    | true => exact Tr.tt rfl Tr.val
    | false =>
    refine Tr.ff rfl ?_
    rw [cond_false]
    cases decide (k = 6) with
    | true => exact Tr.tt rfl Tr.val
    | false =>
    refine Tr.ff rfl ?_
    rw [cond_false]
    cases decide (k = 7) with
    | true => exact Tr.tt rfl Tr.val
    | false => exact Tr.ff rfl Tr.val
  refine Tr.eq (fun m => by unfold m_spec_l6Kids; rfl) ?_
  cases h1 : decide (k = 1) with
  | true => exact Tr.tt rfl (j _ (by rw [h1]; rfl))
  | false =>
  refine Tr.ff rfl ?_
  cases h2 : decide (k = 2) with
  | true => exact Tr.tt rfl (j _ (by rw [h1, h2]; rfl))
  | false =>
  refine Tr.ff rfl ?_
  cases h3 : decide (k = 3) with
  | true => exact Tr.tt rfl (j _ (by rw [h1, h2, h3]; rfl))
  | false => exact Tr.ff rfl (j _ (by rw [h1, h2, h3]; rfl))
noncomputable def Core.fl4 (c : Core) : Bool := bif decide (c.kind = 5) then true else decide ((c.ids.length : Int) = 0)
noncomputable def Core.fl3 (c : Core) : Bool := (bif decide (c.kind = 4) then c.data.valid && noScs c.data else same c.data form0) && c.fl4
noncomputable def Core.fl2 (c : Core) : Bool := (bif decide (c.kind = 3) then decide (0 ≤ c.n) && decide (c.n ≤ 999) else decide (c.n = 0)) && c.fl3
noncomputable def Core.fl1 (c : Core) : Bool := (bif decide (c.kind = 2) then nmOk c.name else decide (c.name = e0)) && c.fl2
noncomputable def Core.fl (c : Core) : Bool := (bif decide (c.kind = 1) then decide (1 ≤ c.id) && decide (c.id ≤ 999) else decide (c.id = 0)) && c.fl1
theorem fl4_tr (c : Core) (b : Bool) : Tr (fun m => m_spec_l6Fields_j4 m c b) (!b && c.fl4) := by
  refine Tr.step (fun m => by rw [m_spec_l6Fields_j4]) ?_
  cases b with
  | true => exact Tr.tt rfl Tr.val
  | false =>
  refine Tr.ff rfl ?_
  unfold Core.fl4
  cases decide (c.kind = 5) with
  | true => exact Tr.tt rfl Tr.val
  | false => exact Tr.ff rfl Tr.val
theorem fl3_tr (c : Core) (hf : c.data.fit) (hb : c.data.w ≤ 2 ^ 36) : Tr (fun m => m_spec_l6Fields_j3 m c) c.fl3 := by
  refine Tr.step (fun m => by rw [m_spec_l6Fields_j3]) ?_
  unfold Core.fl3
  by_cases k4 : c.kind = 4
  · refine Tr.tt (decide_eq_true k4) (Tr.bind (specFormValid_tr _ hf hb) ?_)
    rw [decide_eq_true k4, cond_true]
    cases c.data.valid with
    | false => exact Tr.tt rfl (fl4_tr c true)
    | true =>
    refine Tr.ff rfl ?_
    have hs := stripSame_tr c.data hb
    obtain ⟨N, hN⟩ := hs
    have h2 : Tr (fun m => (m_spec_StripForm m c.data).bind fun v28 => (m_spec_FormSame m v28 c.data).bind fun v29 => bif !v29 then m_spec_l6Fields_j4 m c true else bif decide (c.kind ≠ 4) then (m_spec_FormSame m c.data (Form.mk 0 (⟨#[]⟩ : ByteArray) 0 ([] : List Int) ([] : List Form))).bind fun v32 => m_spec_l6Fields_j4 m c (!v32) else m_spec_l6Fields_j4 m c false) (true && noScs c.data && c.fl4) := by
      refine Tr.eq (G := fun m => ((m_spec_StripForm m c.data).bind fun v => m_spec_FormSame m v c.data).bind fun v29 => bif !v29 then m_spec_l6Fields_j4 m c true else bif decide (c.kind ≠ 4) then (m_spec_FormSame m c.data (Form.mk 0 (⟨#[]⟩ : ByteArray) 0 ([] : List Int) ([] : List Form))).bind fun v32 => m_spec_l6Fields_j4 m c (!v32) else m_spec_l6Fields_j4 m c false) (fun m => by rw [Option.bind_assoc]) (Tr.bind ⟨N, hN⟩ ?_)
      cases noScs c.data with
      | false => exact Tr.tt rfl (fl4_tr c true)
      | true => exact Tr.ff rfl (Tr.ff (decide_eq_false (fun h => h k4)) (by simpa using fl4_tr c false))
    exact h2
  · refine Tr.ff (decide_eq_false k4) (Tr.tt (decide_eq_true k4) (Tr.bind (specFormSame_tr _ _) ?_))
    rw [decide_eq_false k4, cond_false]
    simpa using fl4_tr c (!same c.data form0)
theorem fl2_tr (c : Core) (hf : c.data.fit) (hb : c.data.w ≤ 2 ^ 36) : Tr (fun m => m_spec_l6Fields_j2 m c) c.fl2 := by
  refine Tr.step (fun m => by rw [m_spec_l6Fields_j2]) ?_
  unfold Core.fl2
  by_cases k : c.kind = 3
  · refine Tr.tt (decide_eq_true k) ?_
    rw [decide_eq_true k, cond_true]
    by_cases h1 : c.n < 0
    · refine Tr.tt (decide_eq_true h1) ?_
      rw [decide_eq_false (show ¬ 0 ≤ c.n by omega)]; exact Tr.val
    refine Tr.ff (decide_eq_false h1) ?_
    rw [decide_eq_true (show 0 ≤ c.n by omega), Bool.true_and]
    by_cases h2 : 999 < c.n
    · refine Tr.tt (decide_eq_true h2) ?_
      rw [decide_eq_false (show ¬ c.n ≤ 999 by omega)]; exact Tr.val
    refine Tr.ff (decide_eq_false h2) ?_
    rw [decide_eq_true (show c.n ≤ 999 by omega), Bool.true_and]
    exact Tr.ff (decide_eq_false (fun h => h k)) (fl3_tr c hf hb)
  · refine Tr.ff (decide_eq_false k) (Tr.tt (decide_eq_true k) ?_)
    rw [decide_eq_false k, cond_false]
    by_cases h1 : c.n = 0
    · refine Tr.ff (decide_eq_false (fun h => h h1)) ?_
      rw [decide_eq_true h1, Bool.true_and]; exact fl3_tr c hf hb
    · refine Tr.tt (decide_eq_true h1) ?_
      rw [decide_eq_false h1]; exact Tr.val
theorem fl1_tr (c : Core) (hf : c.data.fit) (hb : c.data.w ≤ 2 ^ 36) : Tr (fun m => m_spec_l6Fields_j1 m c) c.fl1 := by
  refine Tr.step (fun m => by rw [m_spec_l6Fields_j1]) ?_
  unfold Core.fl1
  by_cases k : c.kind = 2
  · refine Tr.tt (decide_eq_true k) (Tr.bind (specNm_tr _) ?_)
    rw [decide_eq_true k, cond_true]
    cases nmOk c.name with
    | false => exact Tr.tt rfl Tr.val
    | true => exact Tr.ff rfl (Tr.ff (decide_eq_false (fun h => h k)) (by simpa using fl2_tr c hf hb))
  · refine Tr.ff (decide_eq_false k) (Tr.tt (decide_eq_true k) ?_)
    rw [decide_eq_false k, cond_false]
    by_cases h1 : c.name = e0
    · refine Tr.ff (decide_eq_false (fun h => h h1)) ?_
      rw [decide_eq_true h1, Bool.true_and]; exact fl2_tr c hf hb
    · refine Tr.tt (decide_eq_true h1) ?_
      rw [decide_eq_false h1]; exact Tr.val
theorem fl_tr (c : Core) (hf : c.data.fit) (hb : c.data.w ≤ 2 ^ 36) : Tr (fun m => m_spec_l6Fields m c) c.fl := by
  refine Tr.eq (fun m => by unfold m_spec_l6Fields; rfl) ?_
  unfold Core.fl
  by_cases k : c.kind = 1
  · refine Tr.tt (decide_eq_true k) ?_
    rw [decide_eq_true k, cond_true]
    by_cases h1 : c.id < 1
    · refine Tr.tt (decide_eq_true h1) ?_
      rw [decide_eq_false (show ¬ 1 ≤ c.id by omega)]; exact Tr.val
    refine Tr.ff (decide_eq_false h1) ?_
    rw [decide_eq_true (show 1 ≤ c.id by omega), Bool.true_and]
    by_cases h2 : 999 < c.id
    · refine Tr.tt (decide_eq_true h2) ?_
      rw [decide_eq_false (show ¬ c.id ≤ 999 by omega)]; exact Tr.val
    refine Tr.ff (decide_eq_false h2) ?_
    rw [decide_eq_true (show c.id ≤ 999 by omega), Bool.true_and]
    exact Tr.ff (decide_eq_false (fun h => h k)) (fl1_tr c hf hb)
  · refine Tr.ff (decide_eq_false k) (Tr.tt (decide_eq_true k) ?_)
    rw [decide_eq_false k, cond_false]
    by_cases h1 : c.id = 0
    · refine Tr.ff (decide_eq_false (fun h => h h1)) ?_
      rw [decide_eq_true h1, Bool.true_and]; exact fl1_tr c hf hb
    · refine Tr.tt (decide_eq_true h1) ?_
      rw [decide_eq_false h1]; exact Tr.val
theorem okF_eq (c : Core) (ar : List Int) : c.okF ar = (kidsOk c.kind (c.kids.length : Int) && (c.fl && ((bif decide (c.kind = 1) then hasB ar c.id else true) && idsOk ar c.ids))) := by
  have hid : ∀ ar, c.ids = [] → idsOk ar c.ids = true := fun ar h => by rw [h]; rfl
  have hl : decide ((c.ids.length : Int) = 0) = decide (c.ids = []) := by
    rw [Bool.eq_iff_iff, decide_eq_true_iff, decide_eq_true_iff]
    exact ⟨fun h => List.eq_nil_of_length_eq_zero (by omega), fun h => by rw [h]; rfl⟩
  unfold Core.okF kidsOk Core.fl Core.fl1 Core.fl2 Core.fl3 Core.fl4 lenI
  rw [hl]
  by_cases hn : c.ids = []
  · rw [hid ar hn]
    rw [decide_eq_true hn]
    by_cases k1 : c.kind = 1
    · simp only [k1, Int.reduceEq, decide_true, decide_false, cond_true, cond_false, Bool.or_true, Bool.true_or, Bool.or_false, Bool.and_true, Bool.true_and]
      generalize (decide (1 ≤ c.id) && decide (c.id ≤ 999)) = p1; generalize hasB ar c.id = p2; generalize decide (c.name = e0) = p3; generalize decide (c.n = 0) = p4; generalize same c.data form0 = p5; generalize decide ((c.kids.length : Int) = 0) = p6
      revert p1 p2 p3 p4 p5 p6; decide
    by_cases k2 : c.kind = 2
    · simp only [k2, Int.reduceEq, decide_true, decide_false, cond_true, cond_false, Bool.or_true, Bool.true_or, Bool.or_false, Bool.false_or, Bool.and_true, Bool.true_and]
      generalize nmOk c.name = p1; generalize decide (c.id = 0) = p3; generalize decide (c.n = 0) = p4; generalize same c.data form0 = p5; generalize decide ((c.kids.length : Int) = 0) = p6
      revert p1 p3 p4 p5 p6; decide
    by_cases k3 : c.kind = 3
    · simp only [k3, Int.reduceEq, decide_true, decide_false, cond_true, cond_false, Bool.or_true, Bool.true_or, Bool.or_false, Bool.false_or, Bool.and_true, Bool.true_and]
      generalize (decide (0 ≤ c.n) && decide (c.n ≤ 999)) = p1; generalize decide (c.id = 0) = p3; generalize decide (c.name = e0) = p4; generalize same c.data form0 = p5; generalize decide ((c.kids.length : Int) = 0) = p6
      revert p1 p3 p4 p5 p6; decide
    by_cases k4 : c.kind = 4
    · simp only [k4, Int.reduceEq, decide_true, decide_false, cond_true, cond_false, Bool.or_true, Bool.true_or, Bool.or_false, Bool.false_or, Bool.and_true, Bool.true_and]
      generalize (c.data.valid && noScs c.data) = p1; generalize decide (c.id = 0) = p3; generalize decide (c.name = e0) = p4; generalize decide (c.n = 0) = p5; generalize decide ((c.kids.length : Int) = 0) = p6
      revert p1 p3 p4 p5 p6; decide
    by_cases k5 : c.kind = 5
    · simp only [k5, Int.reduceEq, decide_true, decide_false, cond_true, cond_false, Bool.or_true, Bool.true_or, Bool.or_false, Bool.false_or, Bool.and_true, Bool.true_and]
      generalize decide (c.id = 0) = p3; generalize decide (c.name = e0) = p4; generalize decide (c.n = 0) = p5; generalize decide ((c.kids.length : Int) = 1) = p6; generalize same c.data form0 = p7
      revert p3 p4 p5 p6 p7; decide
    by_cases k6 : c.kind = 6
    · simp only [k6, Int.reduceEq, decide_true, decide_false, cond_true, cond_false, Bool.or_true, Bool.true_or, Bool.or_false, Bool.false_or, Bool.and_true, Bool.true_and]
      generalize decide (c.id = 0) = p3; generalize decide (c.name = e0) = p4; generalize decide (c.n = 0) = p5; generalize decide (1 ≤ (c.kids.length : Int)) = p6; generalize same c.data form0 = p7
      revert p3 p4 p5 p6 p7; decide
    by_cases k7 : c.kind = 7
    · simp only [k7, Int.reduceEq, decide_true, decide_false, cond_true, cond_false, Bool.or_true, Bool.true_or, Bool.or_false, Bool.false_or, Bool.and_true, Bool.true_and]
      generalize decide (c.id = 0) = p3; generalize decide (c.name = e0) = p4; generalize decide (c.n = 0) = p5; generalize decide ((c.kids.length : Int) = 3) = p6; generalize same c.data form0 = p7
      revert p3 p4 p5 p6 p7; decide
    simp only [k1, k2, k3, k4, k5, k6, k7, decide_false, cond_false, Bool.or_false, Bool.false_and]
  · rw [decide_eq_false hn]
    by_cases k5 : c.kind = 5
    · simp only [k5, Int.reduceEq, decide_true, decide_false, cond_true, cond_false, Bool.or_true, Bool.true_or, Bool.or_false, Bool.false_or, Bool.and_true, Bool.true_and]
      generalize decide (c.id = 0) = p3; generalize decide (c.name = e0) = p4; generalize decide (c.n = 0) = p5; generalize decide ((c.kids.length : Int) = 1) = p6; generalize same c.data form0 = p7; generalize idsOk ar c.ids = p8
      revert p3 p4 p5 p6 p7 p8; decide
    · simp only [k5, decide_false, cond_false, Bool.and_false, Bool.false_and]
      cases decide (c.kind = 1) <;> cases decide (c.kind = 2) <;> cases decide (c.kind = 3) <;> cases decide (c.kind = 4) <;> cases decide (c.kind = 6) <;> cases decide (c.kind = 7) <;> rfl
theorem l6Is_n : ∀ (n : Nat) (c : Core) (ar : List Int) (d : Nat), c.w ≤ n → c.fit → ar.length + c.w ≤ 2 ^ 36 → d ≤ 120 → Tr (fun m => m_spec_l6Is m c ar (d : Int)) (c.isOk ar d) := by
  intro n
  induction n with
  | zero => intro c ar d h; have := c.w_pos; omega
  | succ n ih =>
    intro c ar d h hf hb hd
    obtain ⟨f1, f2, f3, f4, f5⟩ := hf.parts
    have hw := c.w_kids
    rw [Core.isOk_eq, okF_eq]
    refine Tr.step (fun m => by rw [m_spec_l6Is]) ?_
    by_cases hd0 : d = 0
    · refine Tr.tt (decide_eq_true (by omega)) ?_
      rw [decide_eq_true hd0]; exact Tr.val
    refine Tr.ff (decide_eq_false (by omega)) (Tr.bind (l6Kids_tr _ _) ?_)
    rw [decide_eq_false hd0, cond_false]
    cases kidsOk c.kind (c.kids.length : Int) with
    | false => exact Tr.tt rfl Tr.val
    | true =>
    refine Tr.ff rfl (Tr.bind (fl_tr c f3 (by omega)) ?_)
    cases c.fl with
    | false => exact Tr.tt rfl Tr.val
    | true =>
    refine Tr.ff rfl ?_
    rw [Bool.true_and, Bool.true_and]
    have e : ((d : Int) - 1) = ((d - 1 : Nat) : Int) := by omega
    have rest : Tr (fun m => m_spec_l6Is_j1 m c ar (d : Int)) (idsOk ar c.ids && alls (fun x => x.isOk (ar ++ c.ids) (d - 1)) c.kids) := by
      refine Tr.step (fun m => by rw [m_spec_l6Is_j1]) ?_
      have key := drop_ind c.ids (fun k zs => ∀ inn : List Int, inn = ar ++ c.ids.take k → Tr (fun m => m_spec_l6Is_l3 m c (d : Int) inn (k : Int)) (idsOk inn zs && alls (fun x => x.isOk (ar ++ c.ids) (d - 1)) c.kids)) ?_ ?_ 0 (Nat.zero_le _) ar (by simp)
      · simpa using key
      · intro inn hinn
        rw [List.take_length] at hinn
        refine Tr.step (fun m => by rw [m_spec_l6Is_l3, ltN_self, cond_false]) (Tr.step (fun m => by rw [m_spec_l6Is_j2]) ?_)
        rw [hinn, idsOk, Bool.true_and]
        have := loop_all (xs := c.kids) (c := true) (D := fun x => x.isOk (ar ++ c.ids) (d - 1)) (L := fun m k => m_spec_l6Is_l5 m c (d : Int) (ar ++ c.ids) k) (E := fun m x => m_spec_l6Is m x (ar ++ c.ids) (w64 ((d : Int) - 1))) (fun m k => by rw [m_spec_l6Is_l5]) (fun x hx => by
          have := Core.ws_mem hx
          rw [w64_in (by omega), e]; exact ih x (ar ++ c.ids) (d - 1) (by omega) (Core.fits_mem f5 hx) (by simp; omega) (by omega))
        simpa using this
      · intro k x zs hk hx hdr ihk inn hinn
        have hil : inn.length ≤ ar.length + c.ids.length := by rw [hinn]; simp; omega
        refine Tr.step (fun m => by rw [m_spec_l6Is_l3, ltN hk, cond_true, idx_nat hx, Option.bind_some]) ?_
        rw [idsOk]
        have j : ∀ b, Tr (fun m => m_spec_l6Is_j4 m c (d : Int) inn (k : Int) b) (!b && (idsOk (inn ++ [x]) zs && alls (fun x => x.isOk (ar ++ c.ids) (d - 1)) c.kids)) := by
          intro b
          cases b with
          | true => exact Tr.step (fun m => by rw [m_spec_l6Is_j4, cond_true]; rfl) Tr.val
          | false =>
          refine Tr.step (fun m => by rw [m_spec_l6Is_j4, cond_false, idx_nat hx, Option.bind_some, succN]) (Tr.chk (by simp; omega) (Tr.chk (by simp; omega) ?_))
          refine ihk (inn ++ [x]) ?_
          rw [hinn, List.take_add_one, hx, List.append_assoc]; rfl
        by_cases h1 : x < 1
        · refine Tr.tt (decide_eq_true h1) ?_
          rw [decide_eq_false (show ¬ 1 ≤ x by omega)]; exact j true
        refine Tr.ff (decide_eq_false h1) (Tr.eq (fun m => by rw [Option.bind_some]) ?_)
        rw [decide_eq_true (show 1 ≤ x by omega), Bool.true_and]
        by_cases h2 : 999 < x
        · refine Tr.tt (decide_eq_true h2) ?_
          rw [decide_eq_false (show ¬ x ≤ 999 by omega)]; exact j true
        refine Tr.ff (decide_eq_false h2) (Tr.eq (fun m => by rw [Option.bind_some]) (Tr.bind (l2Has_tr _ _) ?_))
        rw [decide_eq_true (show x ≤ 999 by omega), Bool.true_and, Bool.and_assoc]
        exact j _
    by_cases k1 : c.kind = 1
    · refine Tr.tt (decide_eq_true k1) (Tr.bind (l2Has_tr _ _) ?_)
      rw [decide_eq_true k1, cond_true]
      cases hasB ar c.id with
      | false => exact Tr.tt rfl Tr.val
      | true => exact Tr.ff rfl (by simpa using rest)
    · refine Tr.ff (decide_eq_false k1) ?_
      rw [decide_eq_false k1, cond_false, Bool.true_and]; exact rest
theorem l6Count_n : ∀ (n : Nat) (f : Core), f.w ≤ n → f.w ≤ 2 ^ 36 → Tr (fun m => m_spec_l6Count m f) (f.cnt : Int) := by
  intro n
  induction n with
  | zero => intro a h; have := a.w_pos; omega
  | succ n ih =>
    intro f h hb
    have hw := f.w_kids
    have hc := Core.cnts_ws f.kids
    refine Tr.step (fun m => by rw [m_spec_l6Count]) ?_
    have key := drop_ind f.kids (fun k zs => ∀ g : Nat, g + Core.ws zs ≤ 2 ^ 37 → Tr (fun m => m_spec_l6Count_l1 m f (g : Int) (k : Int)) ((g + Core.cnts zs : Nat) : Int)) ?_ ?_ 0 (Nat.zero_le _) 1 (by simp; omega)
    · rw [Core.cnt_eq]; simpa using key
    · intro g hg
      exact Tr.step (fun m => by rw [m_spec_l6Count_l1, ltN_self, cond_false]; simp [Core.cnts]) Tr.val
    · intro k x zs hk hx hd ihk g hg
      have hm := List.mem_of_getElem? hx
      have hxw := Core.ws_mem hm
      have hcx := Core.cnt_w x
      rw [Core.ws] at hg
      refine Tr.step (fun m => by rw [m_spec_l6Count_l1, ltN hk, cond_true, idx_nat hx, Option.bind_some, succN]) ?_
      refine Tr.bind (ih x (by omega) (by omega)) ?_
      refine Tr.eq (fun m => by rw [w64_in (by omega), show (g : Int) + (x.cnt : Int) = ((g + x.cnt : Nat) : Int) by omega]) ?_
      rw [Core.cnts, ← Nat.add_assoc]
      exact ihk _ (by omega)
theorem specCoreValid_tr (f : Core) (hf : f.fit) (hb : f.w ≤ 2 ^ 36) : Tr (fun m => m_spec_CoreValid m f) f.valid := by
  refine Tr.eq (fun m => by unfold m_spec_CoreValid; rfl) (Tr.bind (l6Is_n _ f [] 120 (Nat.le_refl _) hf (by simpa using hb) (by omega)) ?_)
  unfold Core.valid
  cases f.isOk [] 120 with
  | false => exact Tr.ff rfl Tr.val
  | true =>
    refine Tr.tt rfl (Tr.bind (l6Count_n _ f (Nat.le_refl _) hb) (Tr.of fun m => ?_))
    rw [Bool.true_and]; congr 1
    rw [Bool.eq_iff_iff, decide_eq_true_iff, decide_eq_true_iff]; omega
mutual
def Core.wt : Core → Nat
  | .mk _ _ name _ ids data kids => name.size + ids.length + data.wt + Core.wts kids
def Core.wts : List Core → Nat
  | [] => 0
  | f :: fs => f.wt + 1 + Core.wts fs
end
theorem Core.wt_parts (f : Core) : f.wt = f.name.size + f.ids.length + f.data.wt + Core.wts f.kids := by obtain ⟨a, b, c, d, e, g, h⟩ := f; rw [Core.wt]; rfl
mutual
theorem Core.w_wt : ∀ f : Core, f.w ≤ 2 + 3 * f.wt
  | .mk a b c d e f g => by have := Core.ws_wts g; have := f.w_wt; rw [Core.w, Core.wt]; omega
theorem Core.ws_wts : ∀ l : List Core, Core.ws l ≤ 3 * Core.wts l
  | [] => by simp [Core.ws, Core.wts]
  | f :: fs => by have := Core.w_wt f; have := Core.ws_wts fs; rw [Core.ws, Core.wts]; omega
end
theorem szCoreS_of {l : List Core} {v : Int} (hl : l.length ≤ 9223372036854775807) (h0 : 0 ≤ v) (h1 : v ≤ 2 ^ 40) (ih : ∀ x ∈ l, ∀ v : Int, 0 ≤ v → v ≤ 2 ^ 40 → TQ (fun m => m_laws_szCore m x v) (Left v x.wt)) : TQ (fun m => m_laws_szCoreS m l v) (Left v (Core.wts l)) := by
  refine TQ.step (fun m => by rw [m_laws_szCoreS, w64_in (by omega)]) ?_
  refine TQ.cond (fun _ => TQ.val (.inl rfl)) (fun h => ?_)
  replace h : 0 ≤ v - (l.length : Int) := by simpa using h
  have key := drop_ind l (fun k zs => ∀ g : Int, 0 ≤ g → g ≤ 2 ^ 40 → TQ (fun m => m_laws_szCoreS_l1 m l g (k : Int)) (fun r => r = -1 ∨ (0 ≤ r ∧ r = g - Core.wts zs + zs.length))) ?_ ?_ 0 (Nat.zero_le _) _ h (by omega)
  · refine TQ.mono (by simpa using key) (fun r hr => ?_)
    rcases hr with hr | ⟨hr, he⟩
    · exact .inl hr
    · exact .inr ⟨hr, by rw [he]; omega⟩
  · intro g hg _
    exact TQ.step (fun m => by rw [m_laws_szCoreS_l1, ltN_self, cond_false]) (TQ.val (.inr ⟨hg, by simp [Core.wts]⟩))
  · intro k x zs hk hx hd ihk g hg hg1
    refine TQ.step (fun m => by rw [m_laws_szCoreS_l1, ltN hk, cond_true, idx_nat hx, Option.bind_some, succN]) ?_
    have hm := List.mem_of_getElem? hx
    refine TQ.bind (ih x hm g hg hg1) (fun r hr => ?_)
    rcases hr with rfl | ⟨hr, rfl⟩
    · exact TQ.cond (fun _ => TQ.val (.inl rfl)) (fun h => absurd h (by decide))
    refine TQ.cond (fun h => absurd h (by rw [geZ hr]; decide)) (fun _ => ?_)
    refine TQ.mono (ihk _ hr (by omega)) (fun r hr => ?_)
    rcases hr with hr | ⟨hr, he⟩
    · exact .inl hr
    · exact .inr ⟨hr, by rw [he, Core.wts, List.length_cons]; omega⟩
theorem szCore_n : ∀ (n : Nat) (f : Core) (v : Int), f.w ≤ n → f.fit → 0 ≤ v → v ≤ 2 ^ 40 → TQ (fun m => m_laws_szCore m f v) (Left v f.wt) := by
  intro n
  induction n with
  | zero => intro a v h; have := a.w_pos; omega
  | succ n ih =>
    intro f v h hf h0 h1
    obtain ⟨f1, f2, f3, f4, f5⟩ := hf.parts
    have hw := f.w_kids
    have hwt := f.wt_parts
    refine TQ.step (fun m => by rw [m_laws_szCore, w64_in (by omega)]) ?_
    refine TQ.cond (fun _ => TQ.val (.inl rfl)) (fun h => ?_)
    replace h : 0 ≤ v - (f.name.size : Int) := by simpa using h
    refine TQ.bind (szIntS_tq _ _ f2 h (by omega)) (fun v2 h2 => ?_)
    rcases h2 with rfl | ⟨h2, rfl⟩
    · exact TQ.cond (fun _ => TQ.val (.inl rfl)) (fun h => absurd h (by decide))
    refine TQ.cond (fun h => absurd h (by rw [geZ h2]; decide)) (fun _ => ?_)
    refine TQ.bind (szForm_tq _ _ f3 h2 (by omega)) (fun v4 h4 => ?_)
    rcases h4 with rfl | ⟨h4, rfl⟩
    · exact TQ.cond (fun _ => TQ.val (.inl rfl)) (fun h => absurd h (by decide))
    refine TQ.cond (fun h => absurd h (by rw [geZ h4]; decide)) (fun _ => ?_)
    refine TQ.bind (szCoreS_of (l := f.kids) f4 h4 (by omega) (fun x hx v h0 h1 => ih x v (by have := Core.ws_mem hx; omega) (Core.fits_mem f5 hx) h0 h1)) (fun r hr => ?_)
    rcases hr with rfl | ⟨hr, rfl⟩
    · exact TQ.cond (fun _ => TQ.val (.inl rfl)) (fun h => absurd h (by decide))
    exact TQ.cond (fun h => absurd h (by rw [geZ hr]; decide)) (fun _ => TQ.val (.inr ⟨hr, by omega⟩))
theorem szCore_tq (f : Core) (v : Int) (hf : f.fit) (h0 : 0 ≤ v) (h1 : v ≤ 2 ^ 40) : TQ (fun m => m_laws_szCore m f v) (Left v f.wt) := szCore_n _ f v (Nat.le_refl _) hf h0 h1
theorem toCore_n : ∀ (n : Nat) (f : Core), f.w ≤ n → f.w ≤ 2 ^ 36 → Tr (fun m => m_laws_toCore m f) f := by
  intro n
  induction n with
  | zero => intro a h; have := a.w_pos; omega
  | succ n ih =>
    intro f h hb
    have hw := f.w_kids
    have hl := Core.ws_len f.kids
    refine Tr.step (fun m => by rw [m_laws_toCore]) (Tr.bind (toIntS_tr f.ids (by omega)) (Tr.bind (toForm_tr f.data (by omega)) (Tr.bind (v := f.kids) ?_ ?_)))
    · refine Tr.step (fun m => by rw [m_laws_toCoreS]) (Tr.chk (by simp; omega) ?_)
      have := loop_copy (xs := f.kids) (z := Core.mk 0 0 (⟨#[]⟩ : ByteArray) 0 ([] : List Int) (Form.mk 0 (⟨#[]⟩ : ByteArray) 0 ([] : List Int) ([] : List Form)) ([] : List Core)) (f := fun x => x) (L := fun m k acc => m_laws_toCoreS_l1 m f.kids k acc) (E := fun m a => m_laws_toCore m a) (fun m k acc => by rw [m_laws_toCoreS_l1]) (fun a ha => ih a (by have := Core.ws_mem ha; omega) (by have := Core.ws_mem ha; omega))
      simpa using this
    · obtain ⟨a, b, c, d, e, g, h⟩ := f; exact Tr.val
theorem toCore_tr (f : Core) (hb : f.w ≤ 2 ^ 36) : Tr (fun m => m_laws_toCore m f) f := toCore_n _ f (Nat.le_refl _) hb
theorem eqCore_n : ∀ (n : Nat) (a b : Core), a.w ≤ n → Tr (fun m => m_laws_eqCore m a b) (same a b) := by
  intro n
  induction n with
  | zero => intro a b h; have := a.w_pos; omega
  | succ n ih =>
    intro a b h
    have hw := a.w_kids
    rw [core_same]
    refine Tr.step (fun m => by rw [m_laws_eqCore]) ?_
    by_cases h1 : a.kind = b.kind
    case neg => rw [decide_eq_false h1]; exact Tr.tt (decide_eq_true h1) Tr.val
    rw [decide_eq_true h1]
    refine Tr.ff (decide_eq_false (fun h => h h1)) ?_
    by_cases h2 : a.id = b.id
    case neg => rw [decide_eq_false h2]; exact Tr.tt (decide_eq_true h2) Tr.val
    rw [decide_eq_true h2]
    refine Tr.ff (decide_eq_false (fun h => h h2)) ?_
    by_cases h3 : a.name = b.name
    case neg => rw [decide_eq_false h3]; exact Tr.tt (decide_eq_true h3) Tr.val
    rw [decide_eq_true h3]
    refine Tr.ff (decide_eq_false (fun h => h h3)) ?_
    by_cases h4 : a.n = b.n
    case neg => rw [decide_eq_false h4]; exact Tr.tt (decide_eq_true h4) Tr.val
    rw [decide_eq_true h4]
    refine Tr.ff (decide_eq_false (fun h => h h4)) (Tr.bind (eqIntS_tr _ _) ?_)
    cases same a.ids b.ids with
    | false => exact Tr.tt rfl Tr.val
    | true =>
    refine Tr.ff rfl (Tr.bind (eqForm_tr _ _) ?_)
    cases same a.data b.data with
    | false => exact Tr.tt rfl Tr.val
    | true =>
    refine Tr.ff rfl (Tr.bind (v := same a.kids b.kids) ?_ ?_)
    · refine Tr.step (fun m => by rw [m_laws_eqCoreS]) ?_
      by_cases hl : a.kids.length = b.kids.length
      · exact Tr.ff (lenE hl) (loop_eq hl (L := fun m k => m_laws_eqCoreS_l1 m a.kids b.kids k) (E := fun m x y => m_laws_eqCore m x y) (fun m k => by rw [m_laws_eqCoreS_l1]) (fun x hx y _ => ih x y (by have := Core.ws_mem hx; omega)))
      · rw [same_len hl]; exact Tr.tt (lenB hl) Tr.val
    · cases same a.kids b.kids with
      | false => exact Tr.tt rfl Tr.val
      | true => exact Tr.ff rfl Tr.val
theorem eqCore_tr (a b : Core) : Tr (fun m => m_laws_eqCore m a b) (same a b) := eqCore_n _ a b (Nat.le_refl _)
end Go.Abs
end
section
set_option linter.unusedVariables false
set_option linter.unusedSimpArgs false
set_option maxHeartbeats 4000000
namespace Go.Abs
theorem okF_ids {c : Core} {ar : List Int} (h : c.okF ar = true) (hk : c.kind ≠ 5) : c.ids = [] := by
  rw [okF_eq, Bool.and_eq_true, Bool.and_eq_true] at h
  have h1 := h.2.1
  unfold Core.fl Core.fl1 Core.fl2 Core.fl3 at h1
  simp only [Bool.and_eq_true] at h1
  have h2 := h1.2.2.2.2
  unfold Core.fl4 at h2
  rw [decide_eq_false hk, cond_false] at h2
  have := of_decide_eq_true h2
  exact List.eq_nil_of_length_eq_zero (by omega)
end Go.Abs
end
section
set_option linter.unusedVariables false
set_option linter.unusedSimpArgs false
set_option maxHeartbeats 4000000
namespace Go.Abs
def findI (l : List Int) (x : Int) : Int := match l.reverse.findIdx? (fun y => decide (y = x)) with | some i => (i : Int) | none => -1
theorem findI_at {l : List Int} {x : Int} {i : Nat} (h : l.reverse.findIdx? (fun y => decide (y = x)) = some i) : findI l x = i := by unfold findI; rw [h]
theorem find_at : ∀ (q : List Int) (i : Nat) (x : Int), q.Nodup → q[i]? = some x → q.findIdx? (fun y => decide (y = x)) = some i
  | y :: q, 0, x, hn, h => by
    have : y = x := by simpa using h
    rw [List.findIdx?_cons, if_pos (decide_eq_true this)]
  | y :: q, i + 1, x, hn, h => by
    have h' : q[i]? = some x := by simpa using h
    have hy : y ≠ x := fun e => (List.nodup_cons.1 hn).1 (e ▸ List.mem_of_getElem? h')
    rw [List.findIdx?_cons, if_neg (by simpa using hy), find_at q i x (List.nodup_cons.1 hn).2 h']
    rfl
theorem findI_nodup {l : List Int} (hn : l.Nodup) {i : Nat} {x : Int} (h : l[i]? = some x) : findI l x = ((l.length - 1 - i : Nat) : Int) := by
  have hi := (List.getElem?_eq_some_iff.1 h).1
  refine findI_at (find_at l.reverse _ x (List.pairwise_reverse.2 (List.Pairwise.imp (fun h => Ne.symm h) hn)) ?_)
  rw [List.getElem?_reverse (by omega), show l.length - 1 - (l.length - 1 - i) = i by omega]
  exact h
theorem l6Last_tr (l : List Int) (x : Int) (hl : l.length ≤ 2 ^ 40) : Tr (fun m => m_spec_l6Last m l x) (findI l x) := by
  refine Tr.eq (fun m => by unfold m_spec_l6Last; rw [w64_in (by omega)]) ?_
  have key : ∀ j, j ≤ l.length → Tr (fun m => m_spec_l6Last_l1 m l x ((j : Int) - 1)) (match (l.take j).reverse.findIdx? (fun y => decide (y = x)) with | some i => ((l.length - j + i : Nat) : Int) | none => -1) := by
    intro j
    induction j with
    | zero =>
      intro _
      refine Tr.step (fun m => by rw [m_spec_l6Last_l1, decide_eq_false (show ¬ (0 : Int) ≤ ((0 : Nat) : Int) - 1 by omega), cond_false]) ?_
      rw [List.take_zero]; exact Tr.val
    | succ j ih =>
      intro hj
      obtain ⟨y, hy⟩ : ∃ y, l[j]? = some y := ⟨l[j], List.getElem?_eq_getElem (by omega)⟩
      have e : ((j + 1 : Nat) : Int) - 1 = (j : Int) := by omega
      rw [e, List.take_add_one, hy, Option.toList_some, List.reverse_append, List.reverse_singleton, List.singleton_append, List.findIdx?_cons]
      refine Tr.step (fun m => by rw [m_spec_l6Last_l1]) (Tr.tt (decide_eq_true (by omega)) (Tr.idx (idx_nat hy) ?_))
      by_cases hyx : y = x
      · refine Tr.tt (decide_eq_true hyx) ?_
        rw [if_pos (decide_eq_true hyx), w64_in (n := (l.length : Int) - 1) (by omega), w64_in (by omega)]
        exact Tr.of (fun m => by congr 1; simp only []; omega)
      · refine Tr.ff (decide_eq_false hyx) ?_
        rw [if_neg (by simpa using hyx), w64_in (by omega)]
        have := ih (by omega)
        cases hf : (l.take j).reverse.findIdx? (fun y => decide (y = x)) with
        | none => rw [hf] at this; exact this
        | some i =>
          rw [hf] at this
          simp only [Option.map_some] at this ⊢
          rw [show l.length - (j + 1) + (i + 1) = l.length - j + i by omega]; exact this
  have := key l.length (Nat.le_refl _)
  rw [List.take_length] at this
  unfold findI
  cases hf : l.reverse.findIdx? (fun y => decide (y = x)) with
  | none => rw [hf] at this; exact this
  | some i =>
    rw [hf] at this
    simp only [] at this ⊢
    rwa [show l.length - l.length + i = i by omega] at this
mutual
noncomputable def Core.alk : Core → Core → List Int → List Int → Bool
  | .mk k i nm n ids data kids, b, l, r => decide (k = b.kind) && (decide (nm = b.name) && (decide (n = b.n) && (decide (ids.length = b.ids.length) && (same data b.data && (decide (kids.length = b.kids.length) && ((bif decide (k = 1) then decide (findI l i = findI r b.id) else true) && Core.alks kids b.kids (l ++ ids) (r ++ b.ids)))))))
noncomputable def Core.alks : List Core → List Core → List Int → List Int → Bool
  | [], _, _, _ => true
  | x :: xs, ys, l, r => match ys with
    | [] => false
    | y :: ys => x.alk y l r && Core.alks xs ys l r
end
theorem Core.alk_eq (a b : Core) (l r : List Int) : a.alk b l r = (decide (a.kind = b.kind) && (decide (a.name = b.name) && (decide (a.n = b.n) && (decide (a.ids.length = b.ids.length) && (same a.data b.data && (decide (a.kids.length = b.kids.length) && ((bif decide (a.kind = 1) then decide (findI l a.id = findI r b.id) else true) && Core.alks a.kids b.kids (l ++ a.ids) (r ++ b.ids)))))))) := by
  obtain ⟨a1, a2, a3, a4, a5, a6, a7⟩ := a; rw [Core.alk]; rfl
theorem drop_one {α : Type} {l : List α} {k : Nat} {x : α} (h : l[k]? = some x) : l.drop k = x :: l.drop (k + 1) := by
  obtain ⟨h1, h2⟩ := List.getElem?_eq_some_iff.1 h
  rw [List.drop_eq_getElem_cons h1, h2]
theorem loop_alk {xs ys : List Core} (hl : xs.length = ys.length) {l r : List Int} {L : Nat → Int → Option Bool} {E : Nat → Core → Core → Option Bool}
    (h0 : ∀ m k, L (m + 1) k = bif decide (k < (xs.length : Int)) then (idx xs k).bind fun a => (idx ys k).bind fun b => (E m a b).bind fun v => bif !v then some false else L m (k + 1) else some true)
    (hE : ∀ a ∈ xs, ∀ b ∈ ys, Tr (fun m => E m a b) (a.alk b l r)) : Tr (fun m => L m 0) (Core.alks xs ys l r) := by
  have key := drop_ind xs (fun k zs => Tr (fun m => L m (k : Int)) (Core.alks zs (ys.drop k) l r)) ?_ ?_ 0 (Nat.zero_le _)
  · simpa using key
  · refine Tr.step (fun m => by rw [h0, ltN_self, cond_false]) ?_
    rw [Core.alks]; exact Tr.val
  · intro k x zs hk hx hd ih
    obtain ⟨y, hy⟩ : ∃ y, ys[k]? = some y := ⟨ys[k]'(by omega), List.getElem?_eq_getElem _⟩
    rw [drop_one hy, Core.alks]
    refine Tr.step (fun m => by rw [h0, ltN hk, cond_true, idx_nat hx, Option.bind_some, idx_nat hy, Option.bind_some, succN]) ?_
    refine Tr.bind (hE x (List.mem_of_getElem? hx) y (List.mem_of_getElem? hy)) ?_
    cases x.alk y l r with
    | false => exact Tr.tt rfl Tr.val
    | true => exact Tr.ff rfl ih
theorem specAlike_n : ∀ (n : Nat) (a b : Core) (l r : List Int), a.w ≤ n → l.length + a.w ≤ 2 ^ 36 → r.length + b.w ≤ 2 ^ 36 → Tr (fun m => m_spec_l6Alike m a b l r) (a.alk b l r) := by
  intro n
  induction n with
  | zero => intro a b l r h; have := a.w_pos; omega
  | succ n ih =>
    intro a b l r h hb hb2
    have hw := a.w_kids
    have hw2 := b.w_kids
    have stop : Tr (fun m => m_spec_l6Alike_j1 m a b l r true) false := Tr.step (fun m => by rw [m_spec_l6Alike_j1, cond_true]) Tr.val
    rw [Core.alk_eq]
    refine Tr.step (fun m => by rw [m_spec_l6Alike]) ?_
    by_cases h1 : a.kind = b.kind
    case neg => rw [decide_eq_false h1]; exact Tr.tt (decide_eq_true h1) stop
    refine Tr.ff (decide_eq_false (fun h => h h1)) ?_
    rw [decide_eq_true h1, Bool.true_and]
    by_cases h2 : a.name = b.name
    case neg => rw [decide_eq_false h2]; exact Tr.tt (decide_eq_true h2) stop
    refine Tr.ff (decide_eq_false (fun h => h h2)) ?_
    rw [decide_eq_true h2, Bool.true_and]
    by_cases h3 : a.n = b.n
    case neg => rw [decide_eq_false h3]; exact Tr.tt (decide_eq_true h3) stop
    refine Tr.ff (decide_eq_false (fun h => h h3)) ?_
    rw [decide_eq_true h3, Bool.true_and]
    by_cases h4 : a.ids.length = b.ids.length
    case neg => rw [decide_eq_false h4]; exact Tr.tt (lenB h4) stop
    refine Tr.ff (lenE h4) (Tr.bind (specFormSame_tr _ _) ?_)
    rw [decide_eq_true h4, Bool.true_and]
    cases same a.data b.data with
    | false => exact Tr.tt rfl stop
    | true =>
    refine Tr.ff rfl ?_
    rw [Bool.true_and]
    by_cases h5 : a.kids.length = b.kids.length
    case neg => rw [decide_eq_false h5]; refine Tr.eq (fun m => by rw [lenB h5]) stop
    rw [decide_eq_true h5, Bool.true_and]
    refine Tr.eq (fun m => by rw [lenE h5]) (Tr.step (fun m => by rw [m_spec_l6Alike_j1, cond_false]) ?_)
    have rest : Tr (fun m => m_spec_l6Alike_j2 m a b l r) (Core.alks a.kids b.kids (l ++ a.ids) (r ++ b.ids)) := by
      refine Tr.step (fun m => by rw [m_spec_l6Alike_j2]) (Tr.chk (by simp; omega) (Tr.chk (by simp; omega) (Tr.chk (by simp; omega) (Tr.chk (by simp; omega) ?_))))
      rw [List.nil_append, List.nil_append]
      exact loop_alk h5 (L := fun m k => m_spec_l6Alike_l3 m a b k (l ++ a.ids) (r ++ b.ids)) (E := fun m x y => m_spec_l6Alike m x y (l ++ a.ids) (r ++ b.ids)) (fun m k => by rw [m_spec_l6Alike_l3]) (fun x hx y hy => ih x y _ _ (by have := Core.ws_mem hx; omega) (by have := Core.ws_mem hx; simp; omega) (by have := Core.ws_mem hy; simp; omega))
    by_cases k1 : a.kind = 1
    · refine Tr.tt (decide_eq_true k1) (Tr.bind (l6Last_tr l _ (by omega)) (Tr.bind (l6Last_tr r _ (by omega)) ?_))
      rw [decide_eq_true k1, cond_true]
      by_cases hf : findI l a.id = findI r b.id
      · rw [decide_eq_true hf, Bool.true_and]; exact Tr.ff (decide_eq_false (fun h => h hf)) rest
      · rw [decide_eq_false hf]; exact Tr.tt (decide_eq_true hf) Tr.val
    · rw [decide_eq_false k1, cond_false, Bool.true_and]; exact Tr.ff rfl rest
structure AInv (m : Int → Option Int) (l r : List Int) : Prop where
  len : l.length = r.length
  nl : l.Nodup
  nr : r.Nodup
  at_ : ∀ (i : Nat) (x : Int), l[i]? = some x → m x = r[i]?
theorem AInv.nil : AInv map0 [] [] := ⟨rfl, List.nodup_nil, List.nodup_nil, fun i x h => by simp at h⟩
theorem AInv.get {m : Int → Option Int} {l r : List Int} (h : AInv m l r) {x : Int} (hx : x ∈ l) : ∃ (i : Nat) (y : Int), l[i]? = some x ∧ r[i]? = some y ∧ mapGet m x = y := by
  obtain ⟨i, hi⟩ := List.mem_iff_getElem?.1 hx
  have hl := (List.getElem?_eq_some_iff.1 hi).1
  have hr : r[i]? = some (r[i]'(by have := h.len; omega)) := List.getElem?_eq_getElem _
  refine ⟨i, _, hi, hr, ?_⟩
  unfold mapGet; rw [h.at_ i x hi, hr]; rfl
theorem AInv.var {m : Int → Option Int} {l r : List Int} (h : AInv m l r) {x y : Int} (hx : x ∈ l) (hy : y ∈ r) : decide (mapGet m x = y) = decide (findI l x = findI r y) := by
  obtain ⟨i, z, hi, hz, hm⟩ := h.get hx
  obtain ⟨j, hj⟩ := List.mem_iff_getElem?.1 hy
  have h1 := (List.getElem?_eq_some_iff.1 hi).1
  have h2 := (List.getElem?_eq_some_iff.1 hj).1
  have h3 := h.len
  rw [hm, findI_nodup h.nl hi, findI_nodup h.nr hj, Bool.eq_iff_iff, decide_eq_true_iff, decide_eq_true_iff]
  constructor
  · intro e
    have : i = j := by
      rw [e] at hz
      have := find_at r i y h.nr hz
      rw [find_at r j y h.nr hj] at this
      exact (Option.some.inj this).symm
    omega
  · intro e
    have : i = j := by omega
    subst this
    rw [hj] at hz; exact (Option.some.inj hz).symm
theorem AInv.add {m : Int → Option Int} {l r : List Int} (h : AInv m l r) {x y : Int} (hx : (l ++ [x]).Nodup) (hy : (r ++ [y]).Nodup) : AInv (mapSet m x y) (l ++ [x]) (r ++ [y]) := by
  refine ⟨by simp [h.len], hx, hy, fun i z hz => ?_⟩
  unfold mapSet
  have hlen := h.len
  by_cases hi : i < l.length
  · rw [List.getElem?_append_left hi] at hz
    rw [List.getElem?_append_left (by omega)]
    have : z ≠ x := fun e => by
      have h1 := (List.nodup_append.1 hx).2.2 z (List.mem_of_getElem? hz) x (by simp)
      exact h1 e
    rw [if_neg this]; exact h.at_ i z hz
  · rw [List.getElem?_append_right (by omega)] at hz
    rw [List.getElem?_append_right (by omega)]
    have h0 : i - l.length = 0 := by
      rcases Nat.eq_zero_or_pos (i - l.length) with h | h
      · exact h
      · rw [List.getElem?_eq_none (by simp; omega)] at hz; cases hz
    rw [h0] at hz
    have e : z = x := by simpa using hz.symm
    rw [if_pos e, show i - r.length = 0 by omega]; rfl
theorem hasB_iff {l : List Int} {x : Int} : hasB l x = true ↔ x ∈ l := by
  unfold hasB
  induction l with
  | nil => simp [anys]
  | cons y l ih => rw [anys, Bool.or_eq_true, ih, decide_eq_true_iff, List.mem_cons]; exact ⟨fun h => h.imp Eq.symm id, fun h => h.imp Eq.symm id⟩
theorem idsOk_nodup : ∀ (xs ar : List Int), ar.Nodup → idsOk ar xs = true → (ar ++ xs).Nodup
  | [], ar, h, _ => by simpa using h
  | x :: xs, ar, h, hk => by
    simp only [idsOk, Bool.and_eq_true, Bool.not_eq_true'] at hk
    have hx : x ∉ ar := fun hm => by rw [hasB_iff.2 hm] at hk; cases hk.2.1
    have : (ar ++ [x]).Nodup := List.nodup_append.2 ⟨h, by simp, fun a ha b hb e => hx (by simp only [List.mem_singleton] at hb; subst hb; subst e; exact ha)⟩
    have := idsOk_nodup xs (ar ++ [x]) this hk.2.2
    simpa using this
theorem okF_var {c : Core} {ar : List Int} (h : c.okF ar = true) (k : c.kind = 1) : c.id ∈ ar ∧ c.name = e0 ∧ c.n = 0 ∧ c.ids = [] ∧ c.data = form0 ∧ c.kids = [] := by
  rw [Core.okF, decide_eq_true k, cond_true] at h
  simp only [Bool.and_eq_true, decide_eq_true_eq, same_iff, lenI] at h
  obtain ⟨_, h1, h2, h3, h4, h5, h6⟩ := h
  exact ⟨hasB_iff.1 h1, h2, h3, h4, h5, List.eq_nil_of_length_eq_zero (by omega)⟩
theorem okF_fn {c : Core} {ar : List Int} (h : c.okF ar = true) (k : c.kind = 5) : idsOk ar c.ids = true ∧ c.name = e0 ∧ c.n = 0 ∧ c.data = form0 ∧ c.kids.length = 1 ∧ c.id = 0 := by
  unfold Core.okF at h
  simp only [k, Int.reduceEq, decide_true, decide_false, cond_true, cond_false, Bool.and_eq_true, decide_eq_true_eq, same_iff, lenI] at h
  obtain ⟨h1, h0, h2, h3, h4, h5⟩ := h
  exact ⟨h1, h2, h3, h4, by omega, h0⟩
theorem isOk_parts {c : Core} {ar : List Int} {d : Nat} (h : c.isOk ar d = true) : c.okF ar = true ∧ ∀ x ∈ c.kids, x.isOk (ar ++ c.ids) (d - 1) = true := by
  rw [Core.isOk_eq] at h
  by_cases hd : d = 0
  · rw [decide_eq_true hd] at h; cases h
  rw [decide_eq_false hd, cond_false, Bool.and_eq_true] at h
  exact ⟨h.1, alls_iff.1 h.2⟩
theorem alks_nil {l r : List Int} : Core.alks [] [] l r = true := by rw [Core.alks]
theorem alks_one {x y : Core} {l r : List Int} : Core.alks [x] [y] l r = x.alk y l r := by rw [Core.alks]; simp only [Core.alks, Bool.and_true]
theorem implAlike_n : ∀ (n : Nat) (a b : Core) (l r : List Int) (d e : Nat), a.w ≤ n → a.isOk l d = true → b.isOk r e = true →
    (∀ mp, AInv mp l r → Tr (fun m => m_impl_alike m a b mp) (a.alk b l r)) ∧ (l = [] → r = [] → Tr (fun m => m_impl_alike_n m a b) (a.alk b l r)) := by
  intro n
  induction n with
  | zero => intro a b l r d e h; have := a.w_pos; omega
  | succ n ih =>
    intro a b l r d e h ha hb
    have hw := a.w_kids
    obtain ⟨fa, ka⟩ := isOk_parts ha
    obtain ⟨fb, kb⟩ := isOk_parts hb
    have ids0 : a.kind ≠ 5 → b.kind ≠ 5 → a.ids = [] ∧ b.ids = [] := fun h1 h2 => ⟨okF_ids fa h1, okF_ids fb h2⟩
    -- a function
    have fn : ∀ mp, AInv mp l r → a.kind = 5 → b.kind = 5 → a.ids.length = b.ids.length → a.kids.length = b.kids.length → Tr (fun m => m_impl_alike_l3 m a b 0 mp) (Core.alks a.kids b.kids (l ++ a.ids) (r ++ b.ids)) := by
      intro mp hI k5 k5' hil hkl
      obtain ⟨i1, _, _, _, q1, _⟩ := okF_fn fa k5
      obtain ⟨i2, _, _, _, q2, _⟩ := okF_fn fb k5'
      have n1 := idsOk_nodup _ _ hI.nl i1
      have n2 := idsOk_nodup _ _ hI.nr i2
      obtain ⟨x, hx⟩ := List.length_eq_one_iff.1 q1
      obtain ⟨y, hy⟩ := List.length_eq_one_iff.1 q2
      have key := drop_ind a.ids (fun k zs => ∀ g, AInv g (l ++ a.ids.take k) (r ++ b.ids.take k) → Tr (fun m => m_impl_alike_l3 m a b (k : Int) g) (Core.alks a.kids b.kids (l ++ a.ids) (r ++ b.ids))) ?_ ?_ 0 (Nat.zero_le _) mp (by simpa using hI)
      · simpa using key
      · intro g hg
        rw [List.take_length, hil, List.take_length] at hg
        refine Tr.step (fun m => by rw [m_impl_alike_l3, ltN_self, cond_false]) (Tr.step (fun m => by rw [m_impl_alike_j2]) ?_)
        rw [hx, hy, alks_one]
        have := (ih x y (l ++ a.ids) (r ++ b.ids) (d - 1) (e - 1) (by have := Core.ws_mem (show x ∈ a.kids by rw [hx]; simp); omega) (ka x (by rw [hx]; simp)) (kb y (by rw [hy]; simp))).1 g hg
        exact Tr.idx (idx_nat (k := 0) (by simp)) (Tr.idx (idx_nat (k := 0) (by simp)) (Tr.bind this Tr.val))
      · intro k x zs hk hx hd ihk g hg
        obtain ⟨y, hy⟩ : ∃ y, b.ids[k]? = some y := ⟨b.ids[k]'(by omega), List.getElem?_eq_getElem _⟩
        refine Tr.step (fun m => by rw [m_impl_alike_l3, ltN hk, cond_true, idx_nat hx, Option.bind_some, idx_nat hy, Option.bind_some, succN]) (ihk _ ?_)
        have t1 : l ++ a.ids.take (k + 1) = (l ++ a.ids.take k) ++ [x] := by rw [List.take_add_one, hx, List.append_assoc]; rfl
        have t2 : r ++ b.ids.take (k + 1) = (r ++ b.ids.take k) ++ [y] := by rw [List.take_add_one, hy, List.append_assoc]; rfl
        rw [t1, t2]
        refine hg.add ?_ ?_
        · rw [← t1]; exact n1.sublist (List.Sublist.append_left (List.take_sublist _ _) _)
        · rw [← t2]; exact n2.sublist (List.Sublist.append_left (List.take_sublist _ _) _)
    rw [Core.alk_eq]
    constructor
    · intro mp hI
      have stop : Tr (fun m => m_impl_alike_j1 m a b mp true) false := Tr.step (fun m => by rw [m_impl_alike_j1, cond_true]) Tr.val
      refine Tr.step (fun m => by rw [m_impl_alike]) ?_
      by_cases h1 : a.kind = b.kind
      case neg => rw [decide_eq_false h1]; exact Tr.tt (decide_eq_true h1) stop
      refine Tr.ff (decide_eq_false (fun h => h h1)) ?_
      by_cases h5 : a.kids.length = b.kids.length
      case neg => rw [decide_eq_false h5]; simp only [Bool.false_and, Bool.and_false]; exact Tr.tt (lenB h5) stop
      refine Tr.ff (lenE h5) ?_
      by_cases h4 : a.ids.length = b.ids.length
      case neg => rw [decide_eq_false h4]; simp only [Bool.false_and, Bool.and_false]; exact Tr.eq (fun m => by rw [lenB h4]) stop
      refine Tr.eq (fun m => by rw [lenE h4]) (Tr.step (fun m => by rw [m_impl_alike_j1, cond_false]) ?_)
      rw [decide_eq_true h1, decide_eq_true h4, decide_eq_true h5]
      by_cases k1 : a.kind = 1
      · obtain ⟨q1, q2, q3, q4, q5, q6⟩ := okF_var fa k1
        obtain ⟨p1, p2, p3, p4, p5, p6⟩ := okF_var fb (h1 ▸ k1)
        refine Tr.tt (decide_eq_true k1) ?_
        rw [q2, p2, q3, p3, q5, p5, q6, p6, same_self, decide_eq_true k1, cond_true, alks_nil, hI.var q1 p1]
        exact Tr.of (fun m => by simp)
      refine Tr.ff (decide_eq_false k1) ?_
      rw [decide_eq_false k1, cond_false]
      by_cases k5 : a.kind = 5
      · obtain ⟨_, q2, q3, q4, _, _⟩ := okF_fn fa k5
        obtain ⟨_, p2, p3, p4, _, _⟩ := okF_fn fb (h1 ▸ k5)
        refine Tr.tt (decide_eq_true k5) ?_
        rw [q2, p2, q3, p3, q4, p4, same_self]
        simpa using fn mp hI k5 (h1 ▸ k5) h4 h5
      refine Tr.ff (decide_eq_false k5) ?_
      obtain ⟨e1, e2⟩ := ids0 k5 (h1 ▸ k5)
      have stop4 : Tr (fun m => m_impl_alike_j4 m a b mp true) false := Tr.step (fun m => by rw [m_impl_alike_j4, cond_true]) Tr.val
      by_cases h2 : a.name = b.name
      case neg => rw [decide_eq_false h2]; exact Tr.tt (decide_eq_true h2) stop4
      refine Tr.ff (decide_eq_false (fun h => h h2)) ?_
      by_cases h3 : a.n = b.n
      case neg => rw [decide_eq_false h3]; simp only [Bool.false_and, Bool.and_false]; exact Tr.tt (decide_eq_true h3) stop4
      refine Tr.ff (decide_eq_false (fun h => h h3)) (Tr.bind (implFormSame_tr _ _) ?_)
      rw [decide_eq_true h2, decide_eq_true h3]
      cases same a.data b.data with
      | false => exact stop4
      | true =>
      refine Tr.step (fun m => by rw [Bool.not_true, m_impl_alike_j4, cond_false]) ?_
      simp only [Bool.true_and]
      rw [e1, e2, List.append_nil, List.append_nil]
      rw [e1, List.append_nil] at ka
      rw [e2, List.append_nil] at kb
      exact loop_alk h5 (L := fun m k => m_impl_alike_l5 m a b mp k) (E := fun m x y => m_impl_alike m x y mp) (fun m k => by rw [m_impl_alike_l5]) (fun x hx y hy => (ih x y l r (d - 1) (e - 1) (by have := Core.ws_mem hx; omega) (ka x hx) (kb y hy)).1 mp hI)
    · rintro rfl rfl
      have stop : Tr (fun m => m_impl_alike_n_j1 m a b true) false := Tr.step (fun m => by rw [m_impl_alike_n_j1, cond_true]) Tr.val
      refine Tr.step (fun m => by rw [m_impl_alike_n]) ?_
      by_cases h1 : a.kind = b.kind
      case neg => rw [decide_eq_false h1]; exact Tr.tt (decide_eq_true h1) stop
      refine Tr.ff (decide_eq_false (fun h => h h1)) ?_
      by_cases h5 : a.kids.length = b.kids.length
      case neg => rw [decide_eq_false h5]; simp only [Bool.false_and, Bool.and_false]; exact Tr.tt (lenB h5) stop
      refine Tr.ff (lenE h5) ?_
      by_cases h4 : a.ids.length = b.ids.length
      case neg => rw [decide_eq_false h4]; simp only [Bool.false_and, Bool.and_false]; exact Tr.eq (fun m => by rw [lenB h4]) stop
      refine Tr.eq (fun m => by rw [lenE h4]) (Tr.step (fun m => by rw [m_impl_alike_n_j1, cond_false]) ?_)
      rw [decide_eq_true h1, decide_eq_true h4, decide_eq_true h5]
      by_cases k1 : a.kind = 1
      · exact absurd (okF_var fa k1).1 (by simp)
      refine Tr.ff (decide_eq_false k1) ?_
      rw [decide_eq_false k1, cond_false]
      by_cases k5 : a.kind = 5
      · obtain ⟨_, q2, q3, q4, _, _⟩ := okF_fn fa k5
        obtain ⟨_, p2, p3, p4, _, _⟩ := okF_fn fb (h1 ▸ k5)
        refine Tr.tt (decide_eq_true k5) ?_
        rw [q2, p2, q3, p3, q4, p4, same_self]
        simpa using fn map0 AInv.nil k5 (h1 ▸ k5) h4 h5
      refine Tr.ff (decide_eq_false k5) ?_
      obtain ⟨e1, e2⟩ := ids0 k5 (h1 ▸ k5)
      have stop4 : Tr (fun m => m_impl_alike_n_j4 m a b true) false := Tr.step (fun m => by rw [m_impl_alike_n_j4, cond_true]) Tr.val
      by_cases h2 : a.name = b.name
      case neg => rw [decide_eq_false h2]; exact Tr.tt (decide_eq_true h2) stop4
      refine Tr.ff (decide_eq_false (fun h => h h2)) ?_
      by_cases h3 : a.n = b.n
      case neg => rw [decide_eq_false h3]; simp only [Bool.false_and, Bool.and_false]; exact Tr.tt (decide_eq_true h3) stop4
      refine Tr.ff (decide_eq_false (fun h => h h3)) (Tr.bind (implFormSame_tr _ _) ?_)
      rw [decide_eq_true h2, decide_eq_true h3]
      cases same a.data b.data with
      | false => exact stop4
      | true =>
      refine Tr.step (fun m => by rw [Bool.not_true, m_impl_alike_n_j4, cond_false]) ?_
      simp only [Bool.true_and]
      rw [e1, e2, List.append_nil]
      rw [e1, List.append_nil] at ka
      rw [e2, List.append_nil] at kb
      exact loop_alk h5 (L := fun m k => m_impl_alike_n_l5 m a b k) (E := fun m x y => m_impl_alike_n m x y) (fun m k => by rw [m_impl_alike_n_l5]) (fun x hx y hy => (ih x y [] [] (d - 1) (e - 1) (by have := Core.ws_mem hx; omega) (ka x hx) (kb y hy)).2 rfl rfl)
noncomputable def Core.like (a b : Core) : Bool := a.valid && (b.valid && a.alk b [] [])
theorem valid_isOk {c : Core} (h : c.valid = true) : c.isOk [] 120 = true := by unfold Core.valid at h; rw [Bool.and_eq_true] at h; exact h.1
theorem implCoreAlike_tr (a b : Core) (ha : a.fit) (hb : b.fit) (hwa : a.w ≤ 2 ^ 36) (hwb : b.w ≤ 2 ^ 36) : Tr (fun m => m_impl_CoreAlike m a b) (a.like b) := by
  refine Tr.eq (fun m => by unfold m_impl_CoreAlike; rfl) (Tr.bind (implCoreValid_tr a ha hwa) ?_)
  unfold Core.like
  cases h1 : a.valid with
  | false => exact Tr.ff rfl Tr.val
  | true =>
  refine Tr.tt rfl (Tr.bind (implCoreValid_tr b hb hwb) ?_)
  cases h2 : b.valid with
  | false => exact Tr.ff rfl Tr.val
  | true => exact Tr.tt rfl (Tr.bind ((implAlike_n _ a b [] [] 120 120 (Nat.le_refl _) (valid_isOk h1) (valid_isOk h2)).2 rfl rfl) Tr.val)
theorem specCoreAlike_tr (a b : Core) (ha : a.fit) (hb : b.fit) (hwa : a.w ≤ 2 ^ 36) (hwb : b.w ≤ 2 ^ 36) : Tr (fun m => m_spec_CoreAlike m a b) (a.like b) := by
  refine Tr.eq (fun m => by unfold m_spec_CoreAlike; rfl) (Tr.bind (specCoreValid_tr a ha hwa) ?_)
  unfold Core.like
  cases h1 : a.valid with
  | false => exact Tr.ff rfl Tr.val
  | true =>
  refine Tr.tt rfl (Tr.bind (specCoreValid_tr b hb hwb) ?_)
  cases h2 : b.valid with
  | false => exact Tr.ff rfl Tr.val
  | true => exact Tr.tt rfl (Tr.bind (specAlike_n _ a b [] [] (Nat.le_refl _) (by simpa using hwa) (by simpa using hwb)) Tr.val)
theorem FnExactCoreAlike_law (a b : Core) (ha : a.fit) (hb : b.fit) : TQ (fun m => m_laws_FnExactCoreAlike m a b) (fun r => r = true) := by
  refine ⟨true, ?_, rfl⟩
  refine Tr.eq (fun m => by unfold m_laws_FnExactCoreAlike; rfl) ?_
  obtain ⟨v, hv, hl⟩ := szCore_tq a 1048576 ha (by decide) (by decide)
  refine Tr.bind hv ?_
  rcases hl with rfl | ⟨h0, rfl⟩
  · exact Tr.tt rfl Tr.val
  refine Tr.ff (geZ h0) ?_
  obtain ⟨v2, hv2, hl2⟩ := szCore_tq b _ hb h0 (by omega)
  refine Tr.bind hv2 ?_
  rcases hl2 with rfl | ⟨h2, rfl⟩
  · exact Tr.tt rfl Tr.val
  refine Tr.ff (geZ h2) ?_
  have hw1 := a.w_wt
  have hw2 := b.w_wt
  have hba : a.w ≤ 2 ^ 36 := by omega
  have hbb : b.w ≤ 2 ^ 36 := by omega
  have ta := toCore_tr a hba
  have tb := toCore_tr b hbb
  refine Tr.bind ta (Tr.bind tb (Tr.bind (specCoreAlike_tr a b ha hb hba hbb) (Tr.bind ta (Tr.bind tb (Tr.bind (implCoreAlike_tr a b ha hb hba hbb) ?_)))))
  refine Tr.ff (decide_eq_false (fun h => h rfl)) (Tr.bind ta (Tr.bind (eqCore_tr a a) ?_))
  rw [same_self]
  refine Tr.ff rfl (Tr.bind tb (Tr.bind (eqCore_tr b b) ?_))
  rw [same_self]
  exact Tr.ff rfl Tr.val
end Go.Abs
end
