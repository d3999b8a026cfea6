/- A part of the proof: what the functions that the law calls answer, as pure values. -/
import Derived.Test.YtbkdbbfgdjcfgaaK4e5e9f565652
import Derived.Test.YtbkdbbfgdjcfgaaK59f2f0d3f59e
import Derived.Test.YtbkdbbfgdjcfgaaK6acd1b830261
import Derived.Test.YtbkdbbfgdjcfgaaKa66c5c62e785
set_option linter.unusedSimpArgs false
set_option linter.unusedVariables false
section
set_option linter.unusedVariables false
set_option linter.unusedSimpArgs false
set_option maxHeartbeats 4000000
namespace Go.Abs
def kidsOk (k : Int) (n : Int) : Bool :=
  bif (decide (k = 1) || (decide (k = 2) || (decide (k = 3) || decide (k = 4)))) then decide (n = 0)
  else bif decide (k = 5) then decide (n = 1) else bif decide (k = 6) then decide (1 ≤ n) else bif decide (k = 7) then decide (n = 3) else false
theorem l6Kids_tr (k n : Int) : Tr (fun m => m_spec_l6Kids m k n) (kidsOk k n) := by
  have j : ∀ b, b = (decide (k = 1) || (decide (k = 2) || (decide (k = 3) || decide (k = 4)))) → Tr (fun m => m_spec_l6Kids_j1 m k n b) (kidsOk k n) := by
    intro b hb
    refine Tr.step (fun m => by rw [m_spec_l6Kids_j1]) ?_
    unfold kidsOk
    rw [← hb]
    cases b with
    | true => exact Tr.tt rfl Tr.val
    | false =>
    refine Tr.ff rfl ?_
    rw [cond_false]
    cases decide (k = 5) with
    | true => exact Tr.tt rfl Tr.val
    | false =>
    refine Tr.ff rfl ?_
    rw [cond_false]
    cases decide (k = 6) with
    | true => exact Tr.tt rfl Tr.val
    | false =>
    refine Tr.ff rfl ?_
    rw [cond_false]
    cases decide (k = 7) with
    | true => exact Tr.tt rfl Tr.val
    | false => exact Tr.ff rfl Tr.val
  refine Tr.eq (fun m => by unfold m_spec_l6Kids; rfl) ?_
  cases h1 : decide (k = 1) with
  | true => exact Tr.tt rfl (j _ (by rw [h1]; rfl))
  | false =>
  refine Tr.ff rfl ?_
  cases h2 : decide (k = 2) with
  | true => exact Tr.tt rfl (j _ (by rw [h1, h2]; rfl))
  | false =>
  refine Tr.ff rfl ?_
  cases h3 : decide (k = 3) with
  | true => exact Tr.tt rfl (j _ (by rw [h1, h2, h3]; rfl))
  | false => exact Tr.ff rfl (j _ (by rw [h1, h2, h3]; rfl))
noncomputable def Core.fl4 (c : Core) : Bool := bif decide (c.kind = 5) then true else decide ((c.ids.length : Int) = 0)
noncomputable def Core.fl3 (c : Core) : Bool := (bif decide (c.kind = 4) then c.data.valid && noScs c.data else same c.data form0) && c.fl4
noncomputable def Core.fl2 (c : Core) : Bool := (bif decide (c.kind = 3) then decide (0 ≤ c.n) && decide (c.n ≤ 999) else decide (c.n = 0)) && c.fl3
noncomputable def Core.fl1 (c : Core) : Bool := (bif decide (c.kind = 2) then nmOk c.name else decide (c.name = e0)) && c.fl2
noncomputable def Core.fl (c : Core) : Bool := (bif decide (c.kind = 1) then decide (1 ≤ c.id) && decide (c.id ≤ 999) else decide (c.id = 0)) && c.fl1
theorem fl4_tr (c : Core) (b : Bool) : Tr (fun m => m_spec_l6Fields_j4 m c b) (!b && c.fl4) := by
  refine Tr.step (fun m => by rw [m_spec_l6Fields_j4]) ?_
  cases b with
  | true => exact Tr.tt rfl Tr.val
  | false =>
  refine Tr.ff rfl ?_
  unfold Core.fl4
  cases decide (c.kind = 5) with
  | true => exact Tr.tt rfl Tr.val
  | false => exact Tr.ff rfl Tr.val
theorem fl3_tr (c : Core) (hf : c.data.fit) (hb : c.data.w ≤ 2 ^ 36) : Tr (fun m => m_spec_l6Fields_j3 m c) c.fl3 := by
  refine Tr.step (fun m => by rw [m_spec_l6Fields_j3]) ?_
  unfold Core.fl3
  by_cases k4 : c.kind = 4
  · refine Tr.tt (decide_eq_true k4) (Tr.bind (specFormValid_tr _ hf hb) ?_)
    rw [decide_eq_true k4, cond_true]
    cases c.data.valid with
    | false => exact Tr.tt rfl (fl4_tr c true)
    | true =>
    refine Tr.ff rfl ?_
    have hs := stripSame_tr c.data hb
    obtain ⟨N, hN⟩ := hs
    have h2 : Tr (fun m => (m_spec_StripForm m c.data).bind fun v28 => (m_spec_FormSame m v28 c.data).bind fun v29 => bif !v29 then m_spec_l6Fields_j4 m c true else bif decide (c.kind ≠ 4) then (m_spec_FormSame m c.data (Form.mk 0 (⟨#[]⟩ : ByteArray) 0 ([] : List Int) ([] : List Form))).bind fun v32 => m_spec_l6Fields_j4 m c (!v32) else m_spec_l6Fields_j4 m c false) (true && noScs c.data && c.fl4) := by
      refine Tr.eq (G := fun m => ((m_spec_StripForm m c.data).bind fun v => m_spec_FormSame m v c.data).bind fun v29 => bif !v29 then m_spec_l6Fields_j4 m c true else bif decide (c.kind ≠ 4) then (m_spec_FormSame m c.data (Form.mk 0 (⟨#[]⟩ : ByteArray) 0 ([] : List Int) ([] : List Form))).bind fun v32 => m_spec_l6Fields_j4 m c (!v32) else m_spec_l6Fields_j4 m c false) (fun m => by rw [Option.bind_assoc]) (Tr.bind ⟨N, hN⟩ ?_)
      cases noScs c.data with
      | false => exact Tr.tt rfl (fl4_tr c true)
      | true => exact Tr.ff rfl (Tr.ff (decide_eq_false (fun h => h k4)) (by simpa using fl4_tr c false))
    exact h2
  · refine Tr.ff (decide_eq_false k4) (Tr.tt (decide_eq_true k4) (Tr.bind (specFormSame_tr _ _) ?_))
    rw [decide_eq_false k4, cond_false]
    simpa using fl4_tr c (!same c.data form0)
theorem fl2_tr (c : Core) (hf : c.data.fit) (hb : c.data.w ≤ 2 ^ 36) : Tr (fun m => m_spec_l6Fields_j2 m c) c.fl2 := by
  refine Tr.step (fun m => by rw [m_spec_l6Fields_j2]) ?_
  unfold Core.fl2
  by_cases k : c.kind = 3
  · refine Tr.tt (decide_eq_true k) ?_
    rw [decide_eq_true k, cond_true]
    by_cases h1 : c.n < 0
    · refine Tr.tt (decide_eq_true h1) ?_
      rw [decide_eq_false (show ¬ 0 ≤ c.n by omega)]; exact Tr.val
    refine Tr.ff (decide_eq_false h1) ?_
    rw [decide_eq_true (show 0 ≤ c.n by omega), Bool.true_and]
    by_cases h2 : 999 < c.n
    · refine Tr.tt (decide_eq_true h2) ?_
      rw [decide_eq_false (show ¬ c.n ≤ 999 by omega)]; exact Tr.val
    refine Tr.ff (decide_eq_false h2) ?_
    rw [decide_eq_true (show c.n ≤ 999 by omega), Bool.true_and]
    exact Tr.ff (decide_eq_false (fun h => h k)) (fl3_tr c hf hb)
  · refine Tr.ff (decide_eq_false k) (Tr.tt (decide_eq_true k) ?_)
    rw [decide_eq_false k, cond_false]
    by_cases h1 : c.n = 0
    · refine Tr.ff (decide_eq_false (fun h => h h1)) ?_
      rw [decide_eq_true h1, Bool.true_and]; exact fl3_tr c hf hb
    · refine Tr.tt (decide_eq_true h1) ?_
      rw [decide_eq_false h1]; exact Tr.val
theorem fl1_tr (c : Core) (hf : c.data.fit) (hb : c.data.w ≤ 2 ^ 36) : Tr (fun m => m_spec_l6Fields_j1 m c) c.fl1 := by
  refine Tr.step (fun m => by rw [m_spec_l6Fields_j1]) ?_
  unfold Core.fl1
  by_cases k : c.kind = 2
  · refine Tr.tt (decide_eq_true k) (Tr.bind (specNm_tr _) ?_)
    rw [decide_eq_true k, cond_true]
    cases nmOk c.name with
    | false => exact Tr.tt rfl Tr.val
    | true => exact Tr.ff rfl (Tr.ff (decide_eq_false (fun h => h k)) (by simpa using fl2_tr c hf hb))
  · refine Tr.ff (decide_eq_false k) (Tr.tt (decide_eq_true k) ?_)
    rw [decide_eq_false k, cond_false]
    by_cases h1 : c.name = e0
    · refine Tr.ff (decide_eq_false (fun h => h h1)) ?_
      rw [decide_eq_true h1, Bool.true_and]; exact fl2_tr c hf hb
    · refine Tr.tt (decide_eq_true h1) ?_
      rw [decide_eq_false h1]; exact Tr.val
theorem fl_tr (c : Core) (hf : c.data.fit) (hb : c.data.w ≤ 2 ^ 36) : Tr (fun m => m_spec_l6Fields m c) c.fl := by
  refine Tr.eq (fun m => by unfold m_spec_l6Fields; rfl) ?_
  unfold Core.fl
  by_cases k : c.kind = 1
  · refine Tr.tt (decide_eq_true k) ?_
    rw [decide_eq_true k, cond_true]
    by_cases h1 : c.id < 1
    · refine Tr.tt (decide_eq_true h1) ?_
      rw [decide_eq_false (show ¬ 1 ≤ c.id by omega)]; exact Tr.val
    refine Tr.ff (decide_eq_false h1) ?_
    rw [decide_eq_true (show 1 ≤ c.id by omega), Bool.true_and]
    by_cases h2 : 999 < c.id
    · refine Tr.tt (decide_eq_true h2) ?_
      rw [decide_eq_false (show ¬ c.id ≤ 999 by omega)]; exact Tr.val
    refine Tr.ff (decide_eq_false h2) ?_
    rw [decide_eq_true (show c.id ≤ 999 by omega), Bool.true_and]
    exact Tr.ff (decide_eq_false (fun h => h k)) (fl1_tr c hf hb)
  · refine Tr.ff (decide_eq_false k) (Tr.tt (decide_eq_true k) ?_)
    rw [decide_eq_false k, cond_false]
    by_cases h1 : c.id = 0
    · refine Tr.ff (decide_eq_false (fun h => h h1)) ?_
      rw [decide_eq_true h1, Bool.true_and]; exact fl1_tr c hf hb
    · refine Tr.tt (decide_eq_true h1) ?_
      rw [decide_eq_false h1]; exact Tr.val
theorem okF_eq (c : Core) (ar : List Int) : c.okF ar = (kidsOk c.kind (c.kids.length : Int) && (c.fl && ((bif decide (c.kind = 1) then hasB ar c.id else true) && idsOk ar c.ids))) := by
  have hid : ∀ ar, c.ids = [] → idsOk ar c.ids = true := fun ar h => by rw [h]; rfl
  have hl : decide ((c.ids.length : Int) = 0) = decide (c.ids = []) := by
    rw [Bool.eq_iff_iff, decide_eq_true_iff, decide_eq_true_iff]
    exact ⟨fun h => List.eq_nil_of_length_eq_zero (by omega), fun h => by rw [h]; rfl⟩
  unfold Core.okF kidsOk Core.fl Core.fl1 Core.fl2 Core.fl3 Core.fl4 lenI
  rw [hl]
  by_cases hn : c.ids = []
  · rw [hid ar hn]
    rw [decide_eq_true hn]
    by_cases k1 : c.kind = 1
    · simp only [k1, Int.reduceEq, decide_true, decide_false, cond_true, cond_false, Bool.or_true, Bool.true_or, Bool.or_false, Bool.and_true, Bool.true_and]
      generalize (decide (1 ≤ c.id) && decide (c.id ≤ 999)) = p1; generalize hasB ar c.id = p2; generalize decide (c.name = e0) = p3; generalize decide (c.n = 0) = p4; generalize same c.data form0 = p5; generalize decide ((c.kids.length : Int) = 0) = p6
      revert p1 p2 p3 p4 p5 p6; decide
    by_cases k2 : c.kind = 2
    · simp only [k2, Int.reduceEq, decide_true, decide_false, cond_true, cond_false, Bool.or_true, Bool.true_or, Bool.or_false, Bool.false_or, Bool.and_true, Bool.true_and]
      generalize nmOk c.name = p1; generalize decide (c.id = 0) = p3; generalize decide (c.n = 0) = p4; generalize same c.data form0 = p5; generalize decide ((c.kids.length : Int) = 0) = p6
      revert p1 p3 p4 p5 p6; decide
    by_cases k3 : c.kind = 3
    · simp only [k3, Int.reduceEq, decide_true, decide_false, cond_true, cond_false, Bool.or_true, Bool.true_or, Bool.or_false, Bool.false_or, Bool.and_true, Bool.true_and]
      generalize (decide (0 ≤ c.n) && decide (c.n ≤ 999)) = p1; generalize decide (c.id = 0) = p3; generalize decide (c.name = e0) = p4; generalize same c.data form0 = p5; generalize decide ((c.kids.length : Int) = 0) = p6
      revert p1 p3 p4 p5 p6; decide
    by_cases k4 : c.kind = 4
    · simp only [k4, Int.reduceEq, decide_true, decide_false, cond_true, cond_false, Bool.or_true, Bool.true_or, Bool.or_false, Bool.false_or, Bool.and_true, Bool.true_and]
      generalize (c.data.valid && noScs c.data) = p1; generalize decide (c.id = 0) = p3; generalize decide (c.name = e0) = p4; generalize decide (c.n = 0) = p5; generalize decide ((c.kids.length : Int) = 0) = p6
      revert p1 p3 p4 p5 p6; decide
    by_cases k5 : c.kind = 5
    · simp only [k5, Int.reduceEq, decide_true, decide_false, cond_true, cond_false, Bool.or_true, Bool.true_or, Bool.or_false, Bool.false_or, Bool.and_true, Bool.true_and]
      generalize decide (c.id = 0) = p3; generalize decide (c.name = e0) = p4; generalize decide (c.n = 0) = p5; generalize decide ((c.kids.length : Int) = 1) = p6; generalize same c.data form0 = p7
      revert p3 p4 p5 p6 p7; decide
    by_cases k6 : c.kind = 6
    · simp only [k6, Int.reduceEq, decide_true, decide_false, cond_true, cond_false, Bool.or_true, Bool.true_or, Bool.or_false, Bool.false_or, Bool.and_true, Bool.true_and]
      generalize decide (c.id = 0) = p3; generalize decide (c.name = e0) = p4; generalize decide (c.n = 0) = p5; generalize decide (1 ≤ (c.kids.length : Int)) = p6; generalize same c.data form0 = p7
      revert p3 p4 p5 p6 p7; decide
    by_cases k7 : c.kind = 7
    · simp only [k7, Int.reduceEq, decide_true, decide_false, cond_true, cond_false, Bool.or_true, Bool.true_or, Bool.or_false, Bool.false_or, Bool.and_true, Bool.true_and]
      generalize decide (c.id = 0) = p3; generalize decide (c.name = e0) = p4; generalize decide (c.n = 0) = p5; generalize decide ((c.kids.length : Int) = 3) = p6; generalize same c.data form0 = p7
      revert p3 p4 p5 p6 p7; decide
    simp only [k1, k2, k3, k4, k5, k6, k7, decide_false, cond_false, Bool.or_false, Bool.false_and]
  · rw [decide_eq_false hn]
    by_cases k5 : c.kind = 5
    · simp only [k5, Int.reduceEq, decide_true, decide_false, cond_true, cond_false, Bool.or_true, Bool.true_or, Bool.or_false, Bool.false_or, Bool.and_true, Bool.true_and]
      generalize decide (c.id = 0) = p3; generalize decide (c.name = e0) = p4; generalize decide (c.n = 0) = p5; generalize decide ((c.kids.length : Int) = 1) = p6; generalize same c.data form0 = p7; generalize idsOk ar c.ids = p8
      revert p3 p4 p5 p6 p7 p8; decide
    · simp only [k5, decide_false, cond_false, Bool.and_false, Bool.false_and]
      cases decide (c.kind = 1) <;> cases decide (c.kind = 2) <;> cases decide (c.kind = 3) <;> cases decide (c.kind = 4) <;> cases decide (c.kind = 6) <;> cases decide (c.kind = 7) <;> rfl
theorem l6Is_n : ∀ (n : Nat) (c : Core) (ar : List Int) (d : Nat), c.w ≤ n → c.fit → ar.length + c.w ≤ 2 ^ 36 → d ≤ 120 → Tr (fun m => m_spec_l6Is m c ar (d : Int)) (c.isOk ar d) := by
  intro n
  induction n with
  | zero => intro c ar d h; have := c.w_pos; omega
  | succ n ih =>
    intro c ar d h hf hb hd
    obtain ⟨f1, f2, f3, f4, f5⟩ := hf.parts
    have hw := c.w_kids
    rw [Core.isOk_eq, okF_eq]
    refine Tr.step (fun m => by rw [m_spec_l6Is]) ?_
    by_cases hd0 : d = 0
    · refine Tr.tt (decide_eq_true (by omega)) ?_
      rw [decide_eq_true hd0]; exact Tr.val
    refine Tr.ff (decide_eq_false (by omega)) (Tr.bind (l6Kids_tr _ _) ?_)
    rw [decide_eq_false hd0, cond_false]
    cases kidsOk c.kind (c.kids.length : Int) with
    | false => exact Tr.tt rfl Tr.val
    | true =>
    refine Tr.ff rfl (Tr.bind (fl_tr c f3 (by omega)) ?_)
    cases c.fl with
    | false => exact Tr.tt rfl Tr.val
    | true =>
    refine Tr.ff rfl ?_
    rw [Bool.true_and, Bool.true_and]
    have e : ((d : Int) - 1) = ((d - 1 : Nat) : Int) := by omega
    have rest : Tr (fun m => m_spec_l6Is_j1 m c ar (d : Int)) (idsOk ar c.ids && alls (fun x => x.isOk (ar ++ c.ids) (d - 1)) c.kids) := by
      refine Tr.step (fun m => by rw [m_spec_l6Is_j1]) ?_
      have key := drop_ind c.ids (fun k zs => ∀ inn : List Int, inn = ar ++ c.ids.take k → Tr (fun m => m_spec_l6Is_l3 m c (d : Int) inn (k : Int)) (idsOk inn zs && alls (fun x => x.isOk (ar ++ c.ids) (d - 1)) c.kids)) ?_ ?_ 0 (Nat.zero_le _) ar (by simp)
      · simpa using key
      · intro inn hinn
        rw [List.take_length] at hinn
        refine Tr.step (fun m => by rw [m_spec_l6Is_l3, ltN_self, cond_false]) (Tr.step (fun m => by rw [m_spec_l6Is_j2]) ?_)
        rw [hinn, idsOk, Bool.true_and]
        have := loop_all (xs := c.kids) (c := true) (D := fun x => x.isOk (ar ++ c.ids) (d - 1)) (L := fun m k => m_spec_l6Is_l5 m c (d : Int) (ar ++ c.ids) k) (E := fun m x => m_spec_l6Is m x (ar ++ c.ids) (w64 ((d : Int) - 1))) (fun m k => by rw [m_spec_l6Is_l5]) (fun x hx => by
          have := Core.ws_mem hx
          rw [w64_in (by omega), e]; exact ih x (ar ++ c.ids) (d - 1) (by omega) (Core.fits_mem f5 hx) (by simp; omega) (by omega))
        simpa using this
      · intro k x zs hk hx hdr ihk inn hinn
        have hil : inn.length ≤ ar.length + c.ids.length := by rw [hinn]; simp; omega
        refine Tr.step (fun m => by rw [m_spec_l6Is_l3, ltN hk, cond_true, idx_nat hx, Option.bind_some]) ?_
        rw [idsOk]
        have j : ∀ b, Tr (fun m => m_spec_l6Is_j4 m c (d : Int) inn (k : Int) b) (!b && (idsOk (inn ++ [x]) zs && alls (fun x => x.isOk (ar ++ c.ids) (d - 1)) c.kids)) := by
          intro b
          cases b with
          | true => exact Tr.step (fun m => by rw [m_spec_l6Is_j4, cond_true]; rfl) Tr.val
          | false =>
          refine Tr.step (fun m => by rw [m_spec_l6Is_j4, cond_false, idx_nat hx, Option.bind_some, succN]) (Tr.chk (by simp; omega) (Tr.chk (by simp; omega) ?_))
          refine ihk (inn ++ [x]) ?_
          rw [hinn, List.take_add_one, hx, List.append_assoc]; rfl
        by_cases h1 : x < 1
        · refine Tr.tt (decide_eq_true h1) ?_
          rw [decide_eq_false (show ¬ 1 ≤ x by omega)]; exact j true
        refine Tr.ff (decide_eq_false h1) (Tr.eq (fun m => by rw [Option.bind_some]) ?_)
        rw [decide_eq_true (show 1 ≤ x by omega), Bool.true_and]
        by_cases h2 : 999 < x
        · refine Tr.tt (decide_eq_true h2) ?_
          rw [decide_eq_false (show ¬ x ≤ 999 by omega)]; exact j true
        refine Tr.ff (decide_eq_false h2) (Tr.eq (fun m => by rw [Option.bind_some]) (Tr.bind (l2Has_tr _ _) ?_))
        rw [decide_eq_true (show x ≤ 999 by omega), Bool.true_and, Bool.and_assoc]
        exact j _
    by_cases k1 : c.kind = 1
    · refine Tr.tt (decide_eq_true k1) (Tr.bind (l2Has_tr _ _) ?_)
      rw [decide_eq_true k1, cond_true]
      cases hasB ar c.id with
      | false => exact Tr.tt rfl Tr.val
      | true => exact Tr.ff rfl (by simpa using rest)
    · refine Tr.ff (decide_eq_false k1) ?_
      rw [decide_eq_false k1, cond_false, Bool.true_and]; exact rest
theorem l6Count_n : ∀ (n : Nat) (f : Core), f.w ≤ n → f.w ≤ 2 ^ 36 → Tr (fun m => m_spec_l6Count m f) (f.cnt : Int) := by
  intro n
  induction n with
  | zero => intro a h; have := a.w_pos; omega
  | succ n ih =>
    intro f h hb
    have hw := f.w_kids
    have hc := Core.cnts_ws f.kids
    refine Tr.step (fun m => by rw [m_spec_l6Count]) ?_
    have key := drop_ind f.kids (fun k zs => ∀ g : Nat, g + Core.ws zs ≤ 2 ^ 37 → Tr (fun m => m_spec_l6Count_l1 m f (g : Int) (k : Int)) ((g + Core.cnts zs : Nat) : Int)) ?_ ?_ 0 (Nat.zero_le _) 1 (by simp; omega)
    · rw [Core.cnt_eq]; simpa using key
    · intro g hg
      exact Tr.step (fun m => by rw [m_spec_l6Count_l1, ltN_self, cond_false]; simp [Core.cnts]) Tr.val
    · intro k x zs hk hx hd ihk g hg
      have hm := List.mem_of_getElem? hx
      have hxw := Core.ws_mem hm
      have hcx := Core.cnt_w x
      rw [Core.ws] at hg
      refine Tr.step (fun m => by rw [m_spec_l6Count_l1, ltN hk, cond_true, idx_nat hx, Option.bind_some, succN]) ?_
      refine Tr.bind (ih x (by omega) (by omega)) ?_
      refine Tr.eq (fun m => by rw [w64_in (by omega), show (g : Int) + (x.cnt : Int) = ((g + x.cnt : Nat) : Int) by omega]) ?_
      rw [Core.cnts, ← Nat.add_assoc]
      exact ihk _ (by omega)
theorem specCoreValid_tr (f : Core) (hf : f.fit) (hb : f.w ≤ 2 ^ 36) : Tr (fun m => m_spec_CoreValid m f) f.valid := by
  refine Tr.eq (fun m => by unfold m_spec_CoreValid; rfl) (Tr.bind (l6Is_n _ f [] 120 (Nat.le_refl _) hf (by simpa using hb) (by omega)) ?_)
  unfold Core.valid
  cases f.isOk [] 120 with
  | false => exact Tr.ff rfl Tr.val
  | true =>
    refine Tr.tt rfl (Tr.bind (l6Count_n _ f (Nat.le_refl _) hb) (Tr.of fun m => ?_))
    rw [Bool.true_and]; congr 1
    rw [Bool.eq_iff_iff, decide_eq_true_iff, decide_eq_true_iff]; omega
mutual
def Core.wt : Core → Nat
  | .mk _ _ name _ ids data kids => name.size + ids.length + data.wt + Core.wts kids
def Core.wts : List Core → Nat
  | [] => 0
  | f :: fs => f.wt + 1 + Core.wts fs
end
theorem Core.wt_parts (f : Core) : f.wt = f.name.size + f.ids.length + f.data.wt + Core.wts f.kids := by obtain ⟨a, b, c, d, e, g, h⟩ := f; rw [Core.wt]; rfl
mutual
theorem Core.w_wt : ∀ f : Core, f.w ≤ 2 + 3 * f.wt
  | .mk a b c d e f g => by have := Core.ws_wts g; have := f.w_wt; rw [Core.w, Core.wt]; omega
theorem Core.ws_wts : ∀ l : List Core, Core.ws l ≤ 3 * Core.wts l
  | [] => by simp [Core.ws, Core.wts]
  | f :: fs => by have := Core.w_wt f; have := Core.ws_wts fs; rw [Core.ws, Core.wts]; omega
end
theorem szCoreS_of {l : List Core} {v : Int} (hl : l.length ≤ 9223372036854775807) (h0 : 0 ≤ v) (h1 : v ≤ 2 ^ 40) (ih : ∀ x ∈ l, ∀ v : Int, 0 ≤ v → v ≤ 2 ^ 40 → TQ (fun m => m_laws_szCore m x v) (Left v x.wt)) : TQ (fun m => m_laws_szCoreS m l v) (Left v (Core.wts l)) := by
  refine TQ.step (fun m => by rw [m_laws_szCoreS, w64_in (by omega)]) ?_
  refine TQ.cond (fun _ => TQ.val (.inl rfl)) (fun h => ?_)
  replace h : 0 ≤ v - (l.length : Int) := by simpa using h
  have key := drop_ind l (fun k zs => ∀ g : Int, 0 ≤ g → g ≤ 2 ^ 40 → TQ (fun m => m_laws_szCoreS_l1 m l g (k : Int)) (fun r => r = -1 ∨ (0 ≤ r ∧ r = g - Core.wts zs + zs.length))) ?_ ?_ 0 (Nat.zero_le _) _ h (by omega)
  · refine TQ.mono (by simpa using key) (fun r hr => ?_)
    rcases hr with hr | ⟨hr, he⟩
    · exact .inl hr
    · exact .inr ⟨hr, by rw [he]; omega⟩
  · intro g hg _
    exact TQ.step (fun m => by rw [m_laws_szCoreS_l1, ltN_self, cond_false]) (TQ.val (.inr ⟨hg, by simp [Core.wts]⟩))
  · intro k x zs hk hx hd ihk g hg hg1
    refine TQ.step (fun m => by rw [m_laws_szCoreS_l1, ltN hk, cond_true, idx_nat hx, Option.bind_some, succN]) ?_
    have hm := List.mem_of_getElem? hx
    refine TQ.bind (ih x hm g hg hg1) (fun r hr => ?_)
    rcases hr with rfl | ⟨hr, rfl⟩
    · exact TQ.cond (fun _ => TQ.val (.inl rfl)) (fun h => absurd h (by decide))
    refine TQ.cond (fun h => absurd h (by rw [geZ hr]; decide)) (fun _ => ?_)
    refine TQ.mono (ihk _ hr (by omega)) (fun r hr => ?_)
    rcases hr with hr | ⟨hr, he⟩
    · exact .inl hr
    · exact .inr ⟨hr, by rw [he, Core.wts, List.length_cons]; omega⟩
theorem szCore_n : ∀ (n : Nat) (f : Core) (v : Int), f.w ≤ n → f.fit → 0 ≤ v → v ≤ 2 ^ 40 → TQ (fun m => m_laws_szCore m f v) (Left v f.wt) := by
  intro n
  induction n with
  | zero => intro a v h; have := a.w_pos; omega
  | succ n ih =>
    intro f v h hf h0 h1
    obtain ⟨f1, f2, f3, f4, f5⟩ := hf.parts
    have hw := f.w_kids
    have hwt := f.wt_parts
    refine TQ.step (fun m => by rw [m_laws_szCore, w64_in (by omega)]) ?_
    refine TQ.cond (fun _ => TQ.val (.inl rfl)) (fun h => ?_)
    replace h : 0 ≤ v - (f.name.size : Int) := by simpa using h
    refine TQ.bind (szIntS_tq _ _ f2 h (by omega)) (fun v2 h2 => ?_)
    rcases h2 with rfl | ⟨h2, rfl⟩
    · exact TQ.cond (fun _ => TQ.val (.inl rfl)) (fun h => absurd h (by decide))
    refine TQ.cond (fun h => absurd h (by rw [geZ h2]; decide)) (fun _ => ?_)
    refine TQ.bind (szForm_tq _ _ f3 h2 (by omega)) (fun v4 h4 => ?_)
    rcases h4 with rfl | ⟨h4, rfl⟩
    · exact TQ.cond (fun _ => TQ.val (.inl rfl)) (fun h => absurd h (by decide))
    refine TQ.cond (fun h => absurd h (by rw [geZ h4]; decide)) (fun _ => ?_)
    refine TQ.bind (szCoreS_of (l := f.kids) f4 h4 (by omega) (fun x hx v h0 h1 => ih x v (by have := Core.ws_mem hx; omega) (Core.fits_mem f5 hx) h0 h1)) (fun r hr => ?_)
    rcases hr with rfl | ⟨hr, rfl⟩
    · exact TQ.cond (fun _ => TQ.val (.inl rfl)) (fun h => absurd h (by decide))
    exact TQ.cond (fun h => absurd h (by rw [geZ hr]; decide)) (fun _ => TQ.val (.inr ⟨hr, by omega⟩))
theorem szCore_tq (f : Core) (v : Int) (hf : f.fit) (h0 : 0 ≤ v) (h1 : v ≤ 2 ^ 40) : TQ (fun m => m_laws_szCore m f v) (Left v f.wt) := szCore_n _ f v (Nat.le_refl _) hf h0 h1
theorem toCore_n : ∀ (n : Nat) (f : Core), f.w ≤ n → f.w ≤ 2 ^ 36 → Tr (fun m => m_laws_toCore m f) f := by
  intro n
  induction n with
  | zero => intro a h; have := a.w_pos; omega
  | succ n ih =>
    intro f h hb
    have hw := f.w_kids
    have hl := Core.ws_len f.kids
    refine Tr.step (fun m => by rw [m_laws_toCore]) (Tr.bind (toIntS_tr f.ids (by omega)) (Tr.bind (toForm_tr f.data (by omega)) (Tr.bind (v := f.kids) ?_ ?_)))
    · refine Tr.step (fun m => by rw [m_laws_toCoreS]) (Tr.chk (by simp; omega) ?_)
      have := loop_copy (xs := f.kids) (z := Core.mk 0 0 (⟨#[]⟩ : ByteArray) 0 ([] : List Int) (Form.mk 0 (⟨#[]⟩ : ByteArray) 0 ([] : List Int) ([] : List Form)) ([] : List Core)) (f := fun x => x) (L := fun m k acc => m_laws_toCoreS_l1 m f.kids k acc) (E := fun m a => m_laws_toCore m a) (fun m k acc => by rw [m_laws_toCoreS_l1]) (fun a ha => ih a (by have := Core.ws_mem ha; omega) (by have := Core.ws_mem ha; omega))
      simpa using this
    · obtain ⟨a, b, c, d, e, g, h⟩ := f; exact Tr.val
theorem toCore_tr (f : Core) (hb : f.w ≤ 2 ^ 36) : Tr (fun m => m_laws_toCore m f) f := toCore_n _ f (Nat.le_refl _) hb
theorem eqCore_n : ∀ (n : Nat) (a b : Core), a.w ≤ n → Tr (fun m => m_laws_eqCore m a b) (same a b) := by
  intro n
  induction n with
  | zero => intro a b h; have := a.w_pos; omega
  | succ n ih =>
    intro a b h
    have hw := a.w_kids
    rw [core_same]
    refine Tr.step (fun m => by rw [m_laws_eqCore]) ?_
    by_cases h1 : a.kind = b.kind
    case neg => rw [decide_eq_false h1]; exact Tr.tt (decide_eq_true h1) Tr.val
    rw [decide_eq_true h1]
    refine Tr.ff (decide_eq_false (fun h => h h1)) ?_
    by_cases h2 : a.id = b.id
    case neg => rw [decide_eq_false h2]; exact Tr.tt (decide_eq_true h2) Tr.val
    rw [decide_eq_true h2]
    refine Tr.ff (decide_eq_false (fun h => h h2)) ?_
    by_cases h3 : a.name = b.name
    case neg => rw [decide_eq_false h3]; exact Tr.tt (decide_eq_true h3) Tr.val
    rw [decide_eq_true h3]
    refine Tr.ff (decide_eq_false (fun h => h h3)) ?_
    by_cases h4 : a.n = b.n
    case neg => rw [decide_eq_false h4]; exact Tr.tt (decide_eq_true h4) Tr.val
    rw [decide_eq_true h4]
    refine Tr.ff (decide_eq_false (fun h => h h4)) (Tr.bind (eqIntS_tr _ _) ?_)
    cases same a.ids b.ids with
    | false => exact Tr.tt rfl Tr.val
    | true =>
    refine Tr.ff rfl (Tr.bind (eqForm_tr _ _) ?_)
    cases same a.data b.data with
    | false => exact Tr.tt rfl Tr.val
    | true =>
    refine Tr.ff rfl (Tr.bind (v := same a.kids b.kids) ?_ ?_)
    · refine Tr.step (fun m => by rw [m_laws_eqCoreS]) ?_
      by_cases hl : a.kids.length = b.kids.length
      · exact Tr.ff (lenE hl) (loop_eq hl (L := fun m k => m_laws_eqCoreS_l1 m a.kids b.kids k) (E := fun m x y => m_laws_eqCore m x y) (fun m k => by rw [m_laws_eqCoreS_l1]) (fun x hx y _ => ih x y (by have := Core.ws_mem hx; omega)))
      · rw [same_len hl]; exact Tr.tt (lenB hl) Tr.val
    · cases same a.kids b.kids with
      | false => exact Tr.tt rfl Tr.val
      | true => exact Tr.ff rfl Tr.val
theorem eqCore_tr (a b : Core) : Tr (fun m => m_laws_eqCore m a b) (same a b) := eqCore_n _ a b (Nat.le_refl _)
end Go.Abs
end
section
set_option linter.unusedVariables false
set_option linter.unusedSimpArgs false
set_option maxHeartbeats 4000000
namespace Go.Abs
theorem leaf_fit {k : Int} {nm : ByteArray} {n : Int} (h : nm.size ≤ 9223372036854775807) : (Form.mk k nm n [] []).fit := by rw [Form.fit]; exact ⟨h, by simp, by simp, trivial⟩
theorem core_fit {k i : Int} {nm : ByteArray} {n : Int} {ids : List Int} {d : Form} {kids : List Core} (h1 : nm.size ≤ 9223372036854775807) (h2 : ids.length ≤ 9223372036854775807) (h3 : d.fit) (h4 : kids.length ≤ 9223372036854775807) (h5 : Core.fits kids) : (Core.mk k i nm n ids d kids).fit := by rw [Core.fit]; exact ⟨h1, h2, h3, h4, h5⟩
theorem okF_ids {c : Core} {ar : List Int} (h : c.okF ar = true) (hk : c.kind ≠ 5) : c.ids = [] := by
  rw [okF_eq, Bool.and_eq_true, Bool.and_eq_true] at h
  have h1 := h.2.1
  unfold Core.fl Core.fl1 Core.fl2 Core.fl3 at h1
  simp only [Bool.and_eq_true] at h1
  have h2 := h1.2.2.2.2
  unfold Core.fl4 at h2
  rw [decide_eq_false hk, cond_false] at h2
  have := of_decide_eq_true h2
  exact List.eq_nil_of_length_eq_zero (by omega)
end Go.Abs
end
section
set_option linter.unusedVariables false
set_option linter.unusedSimpArgs false
set_option maxHeartbeats 4000000
namespace Go.Abs
def findI (l : List Int) (x : Int) : Int := match l.reverse.findIdx? (fun y => decide (y = x)) with | some i => (i : Int) | none => -1
theorem findI_at {l : List Int} {x : Int} {i : Nat} (h : l.reverse.findIdx? (fun y => decide (y = x)) = some i) : findI l x = i := by unfold findI; rw [h]
theorem find_at : ∀ (q : List Int) (i : Nat) (x : Int), q.Nodup → q[i]? = some x → q.findIdx? (fun y => decide (y = x)) = some i
  | y :: q, 0, x, hn, h => by
    have : y = x := by simpa using h
    rw [List.findIdx?_cons, if_pos (decide_eq_true this)]
  | y :: q, i + 1, x, hn, h => by
    have h' : q[i]? = some x := by simpa using h
    have hy : y ≠ x := fun e => (List.nodup_cons.1 hn).1 (e ▸ List.mem_of_getElem? h')
    rw [List.findIdx?_cons, if_neg (by simpa using hy), find_at q i x (List.nodup_cons.1 hn).2 h']
    rfl
theorem findI_nodup {l : List Int} (hn : l.Nodup) {i : Nat} {x : Int} (h : l[i]? = some x) : findI l x = ((l.length - 1 - i : Nat) : Int) := by
  have hi := (List.getElem?_eq_some_iff.1 h).1
  refine findI_at (find_at l.reverse _ x (List.pairwise_reverse.2 (List.Pairwise.imp (fun h => Ne.symm h) hn)) ?_)
  rw [List.getElem?_reverse (by omega), show l.length - 1 - (l.length - 1 - i) = i by omega]
  exact h
theorem l6Last_tr (l : List Int) (x : Int) (hl : l.length ≤ 2 ^ 40) : Tr (fun m => m_spec_l6Last m l x) (findI l x) := by
  refine Tr.eq (fun m => by unfold m_spec_l6Last; rw [w64_in (by omega)]) ?_
  have key : ∀ j, j ≤ l.length → Tr (fun m => m_spec_l6Last_l1 m l x ((j : Int) - 1)) (match (l.take j).reverse.findIdx? (fun y => decide (y = x)) with | some i => ((l.length - j + i : Nat) : Int) | none => -1) := by
    intro j
    induction j with
    | zero =>
      intro _
      refine Tr.step (fun m => by rw [m_spec_l6Last_l1, decide_eq_false (show ¬ (0 : Int) ≤ ((0 : Nat) : Int) - 1 by omega), cond_false]) ?_
      rw [List.take_zero]; exact Tr.val
    | succ j ih =>
      intro hj
      obtain ⟨y, hy⟩ : ∃ y, l[j]? = some y := ⟨l[j], List.getElem?_eq_getElem (by omega)⟩
      have e : ((j + 1 : Nat) : Int) - 1 = (j : Int) := by omega
      rw [e, List.take_add_one, hy, Option.toList_some, List.reverse_append, List.reverse_singleton, List.singleton_append, List.findIdx?_cons]
      refine Tr.step (fun m => by rw [m_spec_l6Last_l1]) (Tr.tt (decide_eq_true (by omega)) (Tr.idx (idx_nat hy) ?_))
      by_cases hyx : y = x
      · refine Tr.tt (decide_eq_true hyx) ?_
        rw [if_pos (decide_eq_true hyx), w64_in (n := (l.length : Int) - 1) (by omega), w64_in (by omega)]
        exact Tr.of (fun m => by congr 1; simp only []; omega)
      · refine Tr.ff (decide_eq_false hyx) ?_
        rw [if_neg (by simpa using hyx), w64_in (by omega)]
        have := ih (by omega)
        cases hf : (l.take j).reverse.findIdx? (fun y => decide (y = x)) with
        | none => rw [hf] at this; exact this
        | some i =>
          rw [hf] at this
          simp only [Option.map_some] at this ⊢
          rw [show l.length - (j + 1) + (i + 1) = l.length - j + i by omega]; exact this
  have := key l.length (Nat.le_refl _)
  rw [List.take_length] at this
  unfold findI
  cases hf : l.reverse.findIdx? (fun y => decide (y = x)) with
  | none => rw [hf] at this; exact this
  | some i =>
    rw [hf] at this
    simp only [] at this ⊢
    rwa [show l.length - l.length + i = i by omega] at this
structure AInv (m : Int → Option Int) (l r : List Int) : Prop where
  len : l.length = r.length
  nl : l.Nodup
  nr : r.Nodup
  at_ : ∀ (i : Nat) (x : Int), l[i]? = some x → m x = r[i]?
theorem AInv.nil : AInv map0 [] [] := ⟨rfl, List.nodup_nil, List.nodup_nil, fun i x h => by simp at h⟩
theorem AInv.get {m : Int → Option Int} {l r : List Int} (h : AInv m l r) {x : Int} (hx : x ∈ l) : ∃ (i : Nat) (y : Int), l[i]? = some x ∧ r[i]? = some y ∧ mapGet m x = y := by
  obtain ⟨i, hi⟩ := List.mem_iff_getElem?.1 hx
  have hl := (List.getElem?_eq_some_iff.1 hi).1
  have hr : r[i]? = some (r[i]'(by have := h.len; omega)) := List.getElem?_eq_getElem _
  refine ⟨i, _, hi, hr, ?_⟩
  unfold mapGet; rw [h.at_ i x hi, hr]; rfl
theorem AInv.add {m : Int → Option Int} {l r : List Int} (h : AInv m l r) {x y : Int} (hx : (l ++ [x]).Nodup) (hy : (r ++ [y]).Nodup) : AInv (mapSet m x y) (l ++ [x]) (r ++ [y]) := by
  refine ⟨by simp [h.len], hx, hy, fun i z hz => ?_⟩
  unfold mapSet
  have hlen := h.len
  by_cases hi : i < l.length
  · rw [List.getElem?_append_left hi] at hz
    rw [List.getElem?_append_left (by omega)]
    have : z ≠ x := fun e => by
      have h1 := (List.nodup_append.1 hx).2.2 z (List.mem_of_getElem? hz) x (by simp)
      exact h1 e
    rw [if_neg this]; exact h.at_ i z hz
  · rw [List.getElem?_append_right (by omega)] at hz
    rw [List.getElem?_append_right (by omega)]
    have h0 : i - l.length = 0 := by
      rcases Nat.eq_zero_or_pos (i - l.length) with h | h
      · exact h
      · rw [List.getElem?_eq_none (by simp; omega)] at hz; cases hz
    rw [h0] at hz
    have e : z = x := by simpa using hz.symm
    rw [if_pos e, show i - r.length = 0 by omega]; rfl
theorem hasB_iff {l : List Int} {x : Int} : hasB l x = true ↔ x ∈ l := by
  unfold hasB
  induction l with
  | nil => simp [anys]
  | cons y l ih => rw [anys, Bool.or_eq_true, ih, decide_eq_true_iff, List.mem_cons]; exact ⟨fun h => h.imp Eq.symm id, fun h => h.imp Eq.symm id⟩
theorem idsOk_nodup : ∀ (xs ar : List Int), ar.Nodup → idsOk ar xs = true → (ar ++ xs).Nodup
  | [], ar, h, _ => by simpa using h
  | x :: xs, ar, h, hk => by
    simp only [idsOk, Bool.and_eq_true, Bool.not_eq_true'] at hk
    have hx : x ∉ ar := fun hm => by rw [hasB_iff.2 hm] at hk; cases hk.2.1
    have : (ar ++ [x]).Nodup := List.nodup_append.2 ⟨h, by simp, fun a ha b hb e => hx (by simp only [List.mem_singleton] at hb; subst hb; subst e; exact ha)⟩
    have := idsOk_nodup xs (ar ++ [x]) this hk.2.2
    simpa using this
theorem okF_var {c : Core} {ar : List Int} (h : c.okF ar = true) (k : c.kind = 1) : c.id ∈ ar ∧ c.name = e0 ∧ c.n = 0 ∧ c.ids = [] ∧ c.data = form0 ∧ c.kids = [] := by
  rw [Core.okF, decide_eq_true k, cond_true] at h
  simp only [Bool.and_eq_true, decide_eq_true_eq, same_iff, lenI] at h
  obtain ⟨_, h1, h2, h3, h4, h5, h6⟩ := h
  exact ⟨hasB_iff.1 h1, h2, h3, h4, h5, List.eq_nil_of_length_eq_zero (by omega)⟩
theorem okF_fn {c : Core} {ar : List Int} (h : c.okF ar = true) (k : c.kind = 5) : idsOk ar c.ids = true ∧ c.name = e0 ∧ c.n = 0 ∧ c.data = form0 ∧ c.kids.length = 1 ∧ c.id = 0 := by
  unfold Core.okF at h
  simp only [k, Int.reduceEq, decide_true, decide_false, cond_true, cond_false, Bool.and_eq_true, decide_eq_true_eq, same_iff, lenI] at h
  obtain ⟨h1, h0, h2, h3, h4, h5⟩ := h
  exact ⟨h1, h2, h3, h4, by omega, h0⟩
theorem okF_id0 {c : Core} {ar : List Int} (h : c.okF ar = true) (k : c.kind ≠ 1) : c.id = 0 := by
  rw [Core.okF, decide_eq_false k, cond_false] at h
  by_cases k2 : c.kind = 2
  · simp only [k2, Int.reduceEq, decide_true, decide_false, cond_true, cond_false, Bool.and_eq_true, decide_eq_true_eq] at h; exact h.2.1
  by_cases k3 : c.kind = 3
  · simp only [k3, Int.reduceEq, decide_true, decide_false, cond_true, cond_false, Bool.and_eq_true, decide_eq_true_eq] at h; exact h.2.1
  by_cases k4 : c.kind = 4
  · simp only [k4, Int.reduceEq, decide_true, decide_false, cond_true, cond_false, Bool.and_eq_true, decide_eq_true_eq] at h; exact h.2.1
  by_cases k5 : c.kind = 5
  · simp only [k5, Int.reduceEq, decide_true, decide_false, cond_true, cond_false, Bool.and_eq_true, decide_eq_true_eq] at h; exact h.2.1
  by_cases k6 : c.kind = 6
  · simp only [k6, Int.reduceEq, decide_true, decide_false, cond_true, cond_false, Bool.and_eq_true, decide_eq_true_eq] at h; exact h.1
  by_cases k7 : c.kind = 7
  · simp only [k7, Int.reduceEq, decide_true, decide_false, cond_true, cond_false, Bool.and_eq_true, decide_eq_true_eq] at h; exact h.1
  simp only [k2, k3, k4, k5, k6, k7, decide_false, cond_false] at h; cases h
theorem isOk_parts {c : Core} {ar : List Int} {d : Nat} (h : c.isOk ar d = true) : c.okF ar = true ∧ ∀ x ∈ c.kids, x.isOk (ar ++ c.ids) (d - 1) = true := by
  rw [Core.isOk_eq] at h
  by_cases hd : d = 0
  · rw [decide_eq_true hd] at h; cases h
  rw [decide_eq_false hd, cond_false, Bool.and_eq_true] at h
  exact ⟨h.1, alls_iff.1 h.2⟩
theorem valid_isOk {c : Core} (h : c.valid = true) : c.isOk [] 120 = true := by unfold Core.valid at h; rw [Bool.and_eq_true] at h; exact h.1
end Go.Abs
end
section
set_option linter.unusedVariables false
set_option linter.unusedSimpArgs false
set_option maxHeartbeats 4000000
namespace Go.Abs
def seqI (c : Int) (n : Nat) : List Int := (List.range n).map (fun i : Nat => c + 1 + (i : Int))
theorem seqI_len (c : Int) (n : Nat) : (seqI c n).length = n := by simp [seqI]
theorem seqI_zero (c : Int) : seqI c 0 = [] := rfl
theorem seqI_succ (c : Int) (n : Nat) : seqI c (n + 1) = seqI c n ++ [c + n + 1] := by
  unfold seqI; rw [List.range_succ, List.map_append, List.map_singleton, show c + 1 + (n : Int) = c + n + 1 by omega]
theorem seqI_mem {c : Int} {n : Nat} {x : Int} (h : x ∈ seqI c n) : c < x ∧ x ≤ c + n := by
  unfold seqI at h
  obtain ⟨i, hi, rfl⟩ := List.mem_map.1 h
  have := List.mem_range.1 hi
  omega
theorem seqI_nodup (c : Int) : ∀ n : Nat, (seqI c n).Nodup
  | 0 => List.nodup_nil
  | n + 1 => by
    rw [seqI_succ]
    refine List.nodup_append.2 ⟨seqI_nodup c n, by simp, fun a ha b hb e => ?_⟩
    have := seqI_mem ha
    simp only [List.mem_singleton] at hb
    omega
def look (l ns : List Int) (x : Int) : Int := (ns[ns.length - 1 - (findI l x).toNat]?).getD 0
mutual
def Core.num : Core → List Int → List Int → Int → Core × Int
  | .mk k i nm n ids data kids, l, ns, c => (Core.mk k (bif decide (k = 1) then look l ns i else 0) nm n (seqI c ids.length) data (Core.nums kids (l ++ ids) (ns ++ seqI c ids.length) (c + ids.length)).1, (Core.nums kids (l ++ ids) (ns ++ seqI c ids.length) (c + ids.length)).2)
def Core.nums : List Core → List Int → List Int → Int → List Core × Int
  | [], _, _, c => ([], c)
  | x :: xs, l, ns, c => ((x.num l ns c).1 :: (Core.nums xs l ns (x.num l ns c).2).1, (Core.nums xs l ns (x.num l ns c).2).2)
end
theorem Core.num_eq (a : Core) (l ns : List Int) (c : Int) : a.num l ns c = (Core.mk a.kind (bif decide (a.kind = 1) then look l ns a.id else 0) a.name a.n (seqI c a.ids.length) a.data (Core.nums a.kids (l ++ a.ids) (ns ++ seqI c a.ids.length) (c + a.ids.length)).1, (Core.nums a.kids (l ++ a.ids) (ns ++ seqI c a.ids.length) (c + a.ids.length)).2) := by
  obtain ⟨a1, a2, a3, a4, a5, a6, a7⟩ := a; rw [Core.num]; rfl
mutual
theorem Core.num_bd : ∀ (a : Core) (l ns : List Int) (c : Int), c ≤ (a.num l ns c).2 ∧ (a.num l ns c).2 ≤ c + a.w ∧ (a.num l ns c).1.w = a.w
  | .mk k i nm n ids data kids, l, ns, c => by
    have := Core.nums_bd kids (l ++ ids) (ns ++ seqI c ids.length) (c + ids.length)
    rw [Core.num]
    simp only [Core.w, seqI_len]
    omega
theorem Core.nums_bd : ∀ (a : List Core) (l ns : List Int) (c : Int), c ≤ (Core.nums a l ns c).2 ∧ (Core.nums a l ns c).2 ≤ c + Core.ws a ∧ Core.ws (Core.nums a l ns c).1 = Core.ws a
  | [], l, ns, c => by rw [Core.nums]; simp [Core.ws]
  | x :: xs, l, ns, c => by
    have := Core.num_bd x l ns c
    have := Core.nums_bd xs l ns (x.num l ns c).2
    rw [Core.nums]
    simp only [Core.ws]
    omega
end
theorem Core.nums_len : ∀ (a : List Core) (l ns : List Int) (c : Int), (Core.nums a l ns c).1.length = a.length
  | [], l, ns, c => by rw [Core.nums]
  | x :: xs, l, ns, c => by rw [Core.nums, List.length_cons, List.length_cons, Core.nums_len xs]
mutual
theorem Core.num_fit : ∀ (a : Core) (l ns : List Int) (c : Int), a.fit → (a.num l ns c).1.fit
  | .mk k i nm n ids data kids, l, ns, c, h => by
    rw [Core.fit] at h
    rw [Core.num, Core.fit, seqI_len, Core.nums_len]
    exact ⟨h.1, h.2.1, h.2.2.1, h.2.2.2.1, Core.nums_fit kids _ _ _ h.2.2.2.2⟩
theorem Core.nums_fit : ∀ (a : List Core) (l ns : List Int) (c : Int), Core.fits a → Core.fits (Core.nums a l ns c).1
  | [], l, ns, c, _ => by rw [Core.nums]; trivial
  | x :: xs, l, ns, c, h => by
    rw [Core.fits] at h
    rw [Core.nums, Core.fits]
    exact ⟨Core.num_fit x _ _ _ h.1, Core.nums_fit xs _ _ _ h.2⟩
end
theorem loop_nums {xs : List Core} {l ns : List Int} {c0 B : Int} {F : List Core → Int → Core × Int} {L : Nat → Int → Int → List Core → Option (Core × Int)} {E : Nat → Core → Int → Option (Core × Int)} (hxs : Core.ws xs ≤ 2 ^ 36)
    (h0 : ∀ m k c acc, L (m + 1) k c acc = bif decide (k < (xs.length : Int)) then (idx xs k).bind fun v => (E m v c).bind fun q => chk (decide ((acc.length + [q.1].length) * 168 ≤ 140737488355328)) (L m (k + 1) q.2 (acc ++ [q.1])) else some (F acc c))
    (hE : ∀ x ∈ xs, ∀ c, c0 ≤ c → c + x.w ≤ B → Tr (fun m => E m x c) (x.num l ns c)) (hB : c0 + Core.ws xs ≤ B) : Tr (fun m => L m 0 c0 []) (F (Core.nums xs l ns c0).1 (Core.nums xs l ns c0).2) := by
  have hl := Core.ws_len xs
  have key := drop_ind xs (fun k zs => ∀ c acc, c0 ≤ c → c + Core.ws zs ≤ B → acc.length = k → Tr (fun m => L m (k : Int) c acc) (F (acc ++ (Core.nums zs l ns c).1) (Core.nums zs l ns c).2)) ?_ ?_ 0 (Nat.zero_le _) c0 [] (Int.le_refl _) (by simpa using hB) rfl
  · simpa using key
  · intro c acc _ _ _
    refine Tr.step (fun m => by rw [h0, ltN_self, cond_false]) ?_
    rw [Core.nums, List.append_nil]; exact Tr.val
  · intro k x zs hk hx hd ih c acc hc hb hacc
    rw [Core.ws] at hb
    have hbd := x.num_bd l ns c
    refine Tr.step (fun m => by rw [h0, ltN hk, cond_true, idx_nat hx, Option.bind_some, succN]) ?_
    refine Tr.bind (hE x (List.mem_of_getElem? hx) c hc (by omega)) (Tr.chk (decide_eq_true (by simp only [List.length_singleton]; omega)) ?_)
    have := ih (x.num l ns c).2 (acc ++ [(x.num l ns c).1]) (by omega) (by omega) (by simp [hacc])
    rw [Core.nums]
    rwa [List.append_assoc] at this
theorem findI_none {l : List Int} {x : Int} (h : x ∈ l) : ∃ i : Nat, findI l x = i ∧ i < l.length := by
  cases hf : l.reverse.findIdx? (fun y => decide (y = x)) with
  | none =>
    have := List.findIdx?_eq_none_iff.1 hf x (List.mem_reverse.2 h)
    simp at this
  | some i =>
    refine ⟨i, findI_at hf, ?_⟩
    have := (List.findIdx?_eq_some_iff_getElem.1 hf).1
    simpa using this
theorem specNumber_n : ∀ (n : Nat) (a : Core) (l ns : List Int) (c : Int) (d : Nat), a.w ≤ n → a.isOk l d = true → l.length = ns.length → 0 ≤ c → c + a.w ≤ 2 ^ 40 → l.length + a.w ≤ 2 ^ 36 → Tr (fun m => m_spec_l6Number m a l ns c) (a.num l ns c) := by
  intro n
  induction n with
  | zero => intro a l ns c d h; have := a.w_pos; omega
  | succ n ih =>
    intro a l ns c d h ha hln hc hcb hlb
    have hw := a.w_kids
    obtain ⟨fa, ka⟩ := isOk_parts ha
    rw [Core.num_eq]
    have rest : ∀ g : Int, Tr (fun m => m_spec_l6Number_j1 m a l ns c a.data g) (Core.mk a.kind g a.name a.n (seqI c a.ids.length) a.data (Core.nums a.kids (l ++ a.ids) (ns ++ seqI c a.ids.length) (c + a.ids.length)).1, (Core.nums a.kids (l ++ a.ids) (ns ++ seqI c a.ids.length) (c + a.ids.length)).2) := by
      intro g
      refine Tr.step (fun m => by rw [m_spec_l6Number_j1]) ?_
      have key := drop_ind a.ids (fun k zs => Tr (fun m => m_spec_l6Number_l3 m a a.data g (l ++ a.ids.take k) (ns ++ seqI c k) (c + k) (k : Int) (seqI c k)) (Core.mk a.kind g a.name a.n (seqI c a.ids.length) a.data (Core.nums a.kids (l ++ a.ids) (ns ++ seqI c a.ids.length) (c + a.ids.length)).1, (Core.nums a.kids (l ++ a.ids) (ns ++ seqI c a.ids.length) (c + a.ids.length)).2)) ?_ ?_ 0 (Nat.zero_le _)
      · simpa [seqI_zero] using key
      · rw [List.take_length]
        refine Tr.step (fun m => by rw [m_spec_l6Number_l3, ltN_self, cond_false]) (Tr.step (fun m => by rw [m_spec_l6Number_j2]) ?_)
        exact loop_nums (xs := a.kids) (l := l ++ a.ids) (ns := ns ++ seqI c a.ids.length) (c0 := c + a.ids.length) (B := 2 ^ 40) (F := fun z q => (Core.mk a.kind g a.name a.n (seqI c a.ids.length) a.data z, q)) (L := fun m k q acc => m_spec_l6Number_l4 m a a.data g (l ++ a.ids) (ns ++ seqI c a.ids.length) (seqI c a.ids.length) q k acc) (E := fun m x q => m_spec_l6Number m x (l ++ a.ids) (ns ++ seqI c a.ids.length) q) (by omega) (fun m k q acc => by rw [m_spec_l6Number_l4])
          (fun x hx q hq hqb => ih x _ _ q (d - 1) (by have := Core.ws_mem hx; omega) (ka x hx) (by simp [hln, seqI_len]) (by omega) hqb (by have := Core.ws_mem hx; simp; omega)) (by omega)
      · intro k x zs hk hx hd ihk
        have hs := seqI_len c k
        have ht : (a.ids.take k).length ≤ a.ids.length := by simp; omega
        refine Tr.step (fun m => by rw [m_spec_l6Number_l3, ltN hk, cond_true]) ?_
        rw [w64_in (by omega)]
        refine Tr.chk (decide_eq_true (by simp only [List.length_singleton]; omega)) (Tr.chk (decide_eq_true (by simp only [List.length_nil, List.length_append]; omega)) (Tr.idx (idx_nat hx) (Tr.chk (decide_eq_true (by simp only [List.length_nil, List.length_append, List.length_singleton]; omega)) (Tr.chk (decide_eq_true (by simp only [List.length_nil, List.length_append]; omega)) (Tr.chk (decide_eq_true (by simp only [List.length_nil, List.length_append, List.length_singleton]; omega)) ?_)))))
        rw [List.take_add_one, hx, seqI_succ] at ihk
        refine Tr.eq (fun m => ?_) ihk
        rw [List.nil_append, List.nil_append, List.append_assoc, List.append_assoc, succN, show c + (k : Int) + 1 = c + ((k + 1 : Nat) : Int) by omega]
        rfl
    refine Tr.step (fun m => by rw [m_spec_l6Number]) (Tr.bind (l1Copy_tr _ a.data (Nat.le_refl _) (by omega)) ?_)
    by_cases k1 : a.kind = 1
    · obtain ⟨q1, _⟩ := okF_var fa k1
      obtain ⟨i, hi, hil⟩ := findI_none q1
      refine Tr.tt (decide_eq_true k1) (Tr.bind (l6Last_tr l _ (by omega)) ?_)
      rw [decide_eq_true k1, cond_true, hi]
      have hg : ns[ns.length - 1 - i]? = some (ns[ns.length - 1 - i]'(by omega)) := List.getElem?_eq_getElem _
      have e : w64 (w64 ((ns.length : Int) - 1) - (i : Int)) = ((ns.length - 1 - i : Nat) : Int) := by rw [w64_in (n := (ns.length : Int) - 1) (by omega), w64_in (by omega)]; omega
      refine Tr.idx (by rw [e]; exact idx_nat hg) ?_
      have : look l ns a.id = ns[ns.length - 1 - i]'(by omega) := by unfold look; rw [hi, Int.toNat_natCast, hg]; rfl
      rw [this]; exact rest _
    · rw [decide_eq_false k1, cond_false]
      exact Tr.ff rfl (rest 0)
theorem AInv.look {m : Int → Option Int} {l r : List Int} (h : AInv m l r) {x : Int} (hx : x ∈ l) : mapGet m x = look l r x := by
  obtain ⟨i, y, h1, h2, h3⟩ := h.get hx
  have h4 := (List.getElem?_eq_some_iff.1 h1).1
  have h5 := h.len
  unfold Abs.look
  rw [h3, findI_nodup h.nl h1, Int.toNat_natCast, show r.length - 1 - (l.length - 1 - i) = i by omega, h2]; rfl
theorem nodup_seq {ns : List Int} {c : Int} (h : ns.Nodup) (hb : ∀ y ∈ ns, y ≤ c) (k : Nat) : (ns ++ seqI c k).Nodup :=
  List.nodup_append.2 ⟨h, seqI_nodup c k, fun a ha b hb' e => by have := hb a ha; have := seqI_mem hb'; omega⟩
theorem bound_seq {ns : List Int} {c : Int} (hb : ∀ y ∈ ns, y ≤ c) (k : Nat) : ∀ y ∈ ns ++ seqI c k, y ≤ c + k := by
  intro y hy
  rcases List.mem_append.1 hy with h | h
  · have := hb y h; omega
  · have := seqI_mem h; omega
theorem implNumber_n : ∀ (n : Nat) (a : Core) (l ns : List Int) (c : Int) (d : Nat), a.w ≤ n → a.isOk l d = true → 0 ≤ c → c + a.w ≤ 2 ^ 40 → a.w ≤ 2 ^ 36 → (∀ y ∈ ns, y ≤ c) →
    (∀ mp, AInv mp l ns → Tr (fun m => m_impl_renumber m a mp c) (a.num l ns c)) ∧ (l = [] → ns = [] → Tr (fun m => m_impl_renumber_n m a c) (a.num l ns c)) := by
  intro n
  induction n with
  | zero => intro a l ns c d h; have := a.w_pos; omega
  | succ n ih =>
    intro a l ns c d h ha hc hcb hlb hbd
    have hw := a.w_kids
    obtain ⟨fa, ka⟩ := isOk_parts ha
    rw [Core.num_eq]
    have ok5 : ∀ l2 : List Int, a.okF l = true → l.Nodup → (l ++ a.ids).Nodup := by
      intro _ _ hn
      by_cases k5 : a.kind = 5
      · exact idsOk_nodup _ _ hn (okF_fn fa k5).1
      · rw [okF_ids fa k5, List.append_nil]; exact hn
    have rest : ∀ (g : Int) (mp : Int → Option Int), AInv mp l ns → Tr (fun m => m_impl_renumber_l3 m a a.data g 0 c [] mp) (Core.mk a.kind g a.name a.n (seqI c a.ids.length) a.data (Core.nums a.kids (l ++ a.ids) (ns ++ seqI c a.ids.length) (c + a.ids.length)).1, (Core.nums a.kids (l ++ a.ids) (ns ++ seqI c a.ids.length) (c + a.ids.length)).2) := by
      intro g mp hI
      have hN := ok5 [] fa hI.nl
      have key := drop_ind a.ids (fun k zs => ∀ mq, AInv mq (l ++ a.ids.take k) (ns ++ seqI c k) → Tr (fun m => m_impl_renumber_l3 m a a.data g (k : Int) (c + k) (seqI c k) mq) (Core.mk a.kind g a.name a.n (seqI c a.ids.length) a.data (Core.nums a.kids (l ++ a.ids) (ns ++ seqI c a.ids.length) (c + a.ids.length)).1, (Core.nums a.kids (l ++ a.ids) (ns ++ seqI c a.ids.length) (c + a.ids.length)).2)) ?_ ?_ 0 (Nat.zero_le _) mp (by simpa [seqI_zero] using hI)
      · simpa [seqI_zero] using key
      · intro mq hq
        rw [List.take_length] at hq
        refine Tr.step (fun m => by rw [m_impl_renumber_l3, ltN_self, cond_false]) (Tr.step (fun m => by rw [m_impl_renumber_j2]) ?_)
        exact loop_nums (xs := a.kids) (l := l ++ a.ids) (ns := ns ++ seqI c a.ids.length) (c0 := c + a.ids.length) (B := 2 ^ 40) (F := fun z q => (Core.mk a.kind g a.name a.n (seqI c a.ids.length) a.data z, q)) (L := fun m k q acc => m_impl_renumber_l4 m a a.data g mq (seqI c a.ids.length) k q acc) (E := fun m x q => m_impl_renumber m x mq q) (by omega) (fun m k q acc => by rw [m_impl_renumber_l4])
          (fun x hx q hq' hqb => (ih x _ _ q (d - 1) (by have := Core.ws_mem hx; omega) (ka x hx) (by omega) hqb (by have := Core.ws_mem hx; omega) (fun y hy => by have := bound_seq hbd a.ids.length y hy; omega)).1 mq hq) (by omega)
      · intro k x zs hk hx hd ihk mq hq
        have hs := seqI_len c k
        refine Tr.step (fun m => by rw [m_impl_renumber_l3, ltN hk, cond_true]) (Tr.idx (idx_nat hx) ?_)
        rw [w64_in (by omega)]
        refine Tr.chk (decide_eq_true (by simp only [List.length_singleton]; omega)) ?_
        have t1 : l ++ a.ids.take (k + 1) = (l ++ a.ids.take k) ++ [x] := by rw [List.take_add_one, hx, List.append_assoc]; rfl
        have t2 : ns ++ seqI c (k + 1) = (ns ++ seqI c k) ++ [c + k + 1] := by rw [seqI_succ, List.append_assoc]
        have := ihk (mapSet mq x (c + k + 1)) (by
          rw [t1, t2]
          refine hq.add ?_ ?_
          · rw [← t1]; exact hN.sublist (List.Sublist.append_left (List.take_sublist _ _) _)
          · rw [← t2]; exact nodup_seq hI.nr hbd _)
        rw [seqI_succ] at this
        refine Tr.eq (fun m => ?_) this
        rw [succN, show c + (k : Int) + 1 = c + ((k + 1 : Nat) : Int) by omega]
    constructor
    · intro mp hI
      refine Tr.step (fun m => by rw [m_impl_renumber]) (Tr.bind (copyForm_tr a.data (by omega)) ?_)
      by_cases k1 : a.kind = 1
      · refine Tr.tt (decide_eq_true k1) (Tr.step (fun m => by rw [m_impl_renumber_j1]) ?_)
        rw [decide_eq_true k1, cond_true, hI.look (okF_var fa k1).1]
        exact rest _ mp hI
      · refine Tr.ff (decide_eq_false k1) (Tr.step (fun m => by rw [m_impl_renumber_j1]) ?_)
        rw [decide_eq_false k1, cond_false, okF_id0 fa k1]
        exact rest _ mp hI
    · rintro rfl rfl
      refine Tr.eq (fun m => by unfold m_impl_renumber_n; rfl) (Tr.bind (copyForm_tr a.data (by omega)) ?_)
      by_cases k1 : a.kind = 1
      · exact absurd (okF_var fa k1).1 (by simp)
      · refine Tr.ff (decide_eq_false k1) (Tr.step (fun m => by rw [m_impl_renumber_n_j1]) ?_)
        rw [decide_eq_false k1, cond_false, okF_id0 fa k1]
        exact rest _ map0 AInv.nil
abbrev core0 : Core := Core.mk 0 0 (⟨#[]⟩ : ByteArray) 0 ([] : List Int) (Form.mk 0 (⟨#[]⟩ : ByteArray) 0 ([] : List Int) ([] : List Form)) ([] : List Core)
noncomputable def Core.numbered (a : Core) : Core × Bool := bif a.valid then (bif decide (999 < (a.num [] [] 0).2) then (core0, false) else ((a.num [] [] 0).1, true)) else (core0, false)
theorem specNumberCore_tr (a : Core) (ha : a.fit) (hw : a.w ≤ 2 ^ 36) : Tr (fun m => m_spec_NumberCore m a) a.numbered := by
  refine Tr.eq (fun m => by unfold m_spec_NumberCore; rfl) (Tr.bind (specCoreValid_tr a ha hw) ?_)
  unfold Core.numbered
  cases hv : a.valid with
  | false => exact Tr.tt rfl Tr.val
  | true =>
  refine Tr.ff rfl (Tr.bind (specNumber_n _ a [] [] 0 120 (Nat.le_refl _) (valid_isOk hv) rfl (by omega) (by omega) (by simpa using hw)) ?_)
  cases decide (999 < (a.num [] [] 0).2) with
  | true => exact Tr.tt rfl Tr.val
  | false => exact Tr.ff rfl Tr.val
theorem implNumberCore_tr (a : Core) (ha : a.fit) (hw : a.w ≤ 2 ^ 36) : Tr (fun m => m_impl_NumberCore m a) a.numbered := by
  refine Tr.eq (fun m => by unfold m_impl_NumberCore; rfl) (Tr.bind (implCoreValid_tr a ha hw) ?_)
  unfold Core.numbered
  cases hv : a.valid with
  | false => exact Tr.tt rfl Tr.val
  | true =>
  refine Tr.ff rfl (Tr.bind ((implNumber_n _ a [] [] 0 120 (Nat.le_refl _) (valid_isOk hv) (by omega) (by omega) hw (by simp)).2 rfl rfl) ?_)
  cases decide (999 < (a.num [] [] 0).2) with
  | true => exact Tr.tt rfl Tr.val
  | false => exact Tr.ff rfl Tr.val
theorem Core.numbered_bd (a : Core) (ha : a.fit) : a.numbered.1.w ≤ a.w + 2 ∧ a.numbered.1.fit := by
  unfold Core.numbered
  have h0 : core0.w ≤ a.w + 2 ∧ core0.fit := ⟨by have := a.w_pos; simp [core0, Core.w, Core.ws, Form.w, Form.ws]; try omega, core_fit (by decide) (by simp) (leaf_fit (by decide)) (by simp) trivial⟩
  cases a.valid with
  | false => exact h0
  | true =>
    cases decide (999 < (a.num [] [] 0).2) with
    | true => exact h0
    | false => exact ⟨by show (a.num [] [] 0).1.w ≤ _; rw [(a.num_bd [] [] 0).2.2]; omega, a.num_fit [] [] 0 ha⟩
end Go.Abs
end
section
set_option linter.unusedVariables false
set_option linter.unusedSimpArgs false
set_option maxHeartbeats 4000000
namespace Go.Abs
mutual
def Core.dep : Core → Nat
  | .mk _ _ _ _ _ _ kids => Core.deps kids + 1
def Core.deps : List Core → Nat
  | [] => 0
  | x :: xs => max x.dep (Core.deps xs)
end
end Go.Abs
end
section
set_option linter.unusedVariables false
set_option linter.unusedSimpArgs false
set_option maxHeartbeats 2000000
namespace Go.Abs
open Go.Lib (itoa join joinTail decDigits nDigits)
def idTx (x : Int) : List UInt8 := [35] ++ itoa x
def Core.hd (c : Core) : List UInt8 := bif decide (c.kind = 5) then [40, 102, 117, 110, 32, 40] ++ join (c.ids.map idTx) [32] ++ [41, 32] else bif decide (c.kind = 6) then [40] else [40, 105, 102, 32]
end Go.Abs
end
section
set_option linter.unusedVariables false
set_option linter.unusedSimpArgs false
set_option maxHeartbeats 4000000
namespace Go.Abs
section
variable {α : Type}
theorem mk_lt_mid (d : List α) (x : α) (xs : List α) : decide ((d.length : Int) < ((d ++ x :: xs).length : Int)) = true := by simp; omega
theorem mk_lt_end (d : List α) : decide ((d.length : Int) < ((d ++ []).length : Int)) = false := by simp
theorem mk_idx_mid (d : List α) (x : α) (xs : List α) : idx (d ++ x :: xs) (d.length : Int) = some x := idx_nat (by simp)
theorem mk_set_mid (d : List α) (x y : α) (xs : List α) : (d ++ x :: xs).set ((d.length : Int)).toNat y = d ++ y :: xs := by simp
theorem mk_mid_app (d : List α) (y : α) (xs : List α) : d ++ y :: xs = (d ++ [y]) ++ xs := by simp
theorem mk_mid_len (d : List α) (y : α) : (d.length : Int) + 1 = ((d ++ [y]).length : Int) := by simp
theorem mk_mid_lenw (d : List α) (y : α) (h : d.length ≤ 4611686018427387904) : w64 ((d.length : Int) + 1) = ((d ++ [y]).length : Int) := by
  rw [w64_in (by omega)]; simp
end
theorem mk_wIn {k : Int} (h0 : 0 ≤ k) (h1 : k ≤ 4611686018427387904) : w64 (k + 1) = k + 1 := w64_in (by omega)
theorem mk_ne_self_f {α : Type} [DecidableEq α] (x : α) : decide (x ≠ x) = false := by simp
theorem mk_not_neg {k : Int} (h : 0 ≤ k) : decide (k < 0) = false := by simpa using h
theorem markText_loop : ∀ (n : Nat) (k : Nat) (s : ByteArray), k < 2 ^ n → s.size + n ≤ 1000 → n ≤ 63 → ∃ t, Tr (fun m => m_laws_markText_l1 m (k : Int) s) t := by
  intro n
  induction n with
  | zero =>
    intro k s hk hs hn
    have : k = 0 := by omega
    subst this
    refine ⟨(⟨#[109]⟩ : ByteArray) ++ s, Tr.step (fun m => by rw [m_laws_markText_l1, show decide ((0 : Int) < ((0 : Nat) : Int)) = false from rfl, cond_false]) (Tr.of fun m => ?_)⟩
    · rw [bcat, decide_eq_true (by have : (⟨#[109]⟩ : ByteArray).size = 1 := rfl; omega)]; rfl
  | succ n ih =>
    intro k s hk hs hn
    by_cases h0 : k = 0
    · subst h0
      refine ⟨(⟨#[109]⟩ : ByteArray) ++ s, Tr.step (fun m => by rw [m_laws_markText_l1, show decide ((0 : Int) < ((0 : Nat) : Int)) = false from rfl, cond_false]) (Tr.of fun m => ?_)⟩
      · rw [bcat, decide_eq_true (by have : (⟨#[109]⟩ : ByteArray).size = 1 := rfl; omega)]; rfl
    · have hk2 : k / 10 < 2 ^ n := by rw [Nat.pow_succ] at hk; omega
      have hp : (2 : Nat) ^ (n + 1) ≤ 2 ^ 63 := Nat.pow_le_pow_right (by omega) (by omega)
      have hsz : (strOf [(w8 (w64 (48 + ((k : Int).tmod 10))))]).size = 1 := rfl
      have hsz2 : (strOf [(w8 (w64 (48 + ((k : Int).tmod 10))))] ++ s).size = 1 + s.size := by rw [ByteArray.size_append, hsz]
      obtain ⟨t, ht⟩ := ih (k / 10) (strOf [(w8 (w64 (48 + ((k : Int).tmod 10))))] ++ s) hk2 (by rw [hsz2]; omega) (by omega)
      refine ⟨t, Tr.step (fun m => by rw [m_laws_markText_l1, decide_eq_true (show (0 : Int) < (k : Int) by omega), cond_true, bcat, decide_eq_true (by rw [hsz]; omega), cond_true, Option.bind_some]) ?_⟩
      refine Tr.eq (fun m => ?_) ht
      have : w64 ((k : Int).tdiv 10) = ((k / 10 : Nat) : Int) := by
        rw [show ((k : Int).tdiv 10) = ((k / 10 : Nat) : Int) from rfl, w64_in (by omega)]
      rw [this]
theorem markText_tr {k : Int} (h0 : 0 ≤ k) (h1 : k ≤ 4611686018427387905) : ∃ t, Tr (fun m => m_laws_markText m k) t := by
  by_cases hk : k ≤ 0
  · exact ⟨_, Tr.of fun m => by rw [m_laws_markText, decide_eq_true hk]; rfl⟩
  · obtain ⟨n, rfl⟩ := Int.eq_ofNat_of_zero_le h0
    obtain ⟨t, ht⟩ := markText_loop 63 n ⟨#[]⟩ (by omega) (by decide) (Nat.le_refl _)
    exact ⟨t, Tr.eq (fun m => by rw [m_laws_markText, decide_eq_false hk, cond_false]) ht⟩
def MH {α : Type} (M : Nat → List α → Int → Option (Int × List α)) (H : Nat → List α → Int → Option Int) (l : List α) (b : Nat) : Prop :=
  ∀ k : Int, 0 ≤ k → k + b ≤ 4611686018427387904 → ∃ v ys, Tr (fun m => M m l k) (v, ys) ∧ k ≤ v ∧ v ≤ k + b ∧ Tr (fun m => H m ys k) v
theorem markInt_loop : ∀ (xs d : List Int) (k : Int), 0 ≤ k → k + xs.length ≤ 4611686018427387904 → ∃ v ys, Tr (fun m => m_laws_markIntS_l1 m k (d.length : Int) (d ++ xs)) (v, d ++ ys) ∧ k ≤ v ∧ v ≤ k + xs.length ∧ ∀ d' : List Int, Tr (fun m => m_laws_heldIntS_l1 m (d' ++ ys) k (d'.length : Int)) v
  | [], d, k, h0, h1 => ⟨k, [], Tr.step (fun m => by rw [m_laws_markIntS_l1, mk_lt_end, cond_false]) Tr.val, Int.le_refl _, by omega, fun d' => Tr.step (fun m => by rw [m_laws_heldIntS_l1, mk_lt_end, cond_false]) Tr.val⟩
  | x :: xs, d, k, h0, h1 => by
    rw [List.length_cons] at h1
    obtain ⟨v, ys, a1, a2, a3, a4⟩ := markInt_loop xs (d ++ [k]) (k + 1) (by omega) (by omega)
    refine ⟨v, k :: ys, ?_, by omega, by rw [List.length_cons]; omega, fun d' => ?_⟩
    · refine Tr.step (fun m => by rw [m_laws_markIntS_l1, mk_lt_mid, cond_true, mk_idx_mid, Option.bind_some, mk_set_mid]) ?_
      refine Tr.eq (fun m => ?_) (mk_mid_app d k ys ▸ a1)
      rw [mk_wIn h0 (by omega), mk_mid_len d k, mk_mid_app d k xs]
    · refine Tr.step (fun m => by rw [m_laws_heldIntS_l1, mk_lt_mid, cond_true, mk_idx_mid, Option.bind_some, mk_ne_self_f, cond_false]) ?_
      refine Tr.eq (fun m => ?_) (a4 (d' ++ [k]))
      rw [mk_wIn h0 (by omega), mk_mid_len d' k, mk_mid_app d' k ys]
theorem mhInt (l : List Int) : MH m_laws_markIntS m_laws_heldIntS l l.length := fun k h0 h1 => by
  obtain ⟨v, ys, a1, a2, a3, a4⟩ := markInt_loop l [] k h0 h1
  exact ⟨v, ys, Tr.eq (fun m => by unfold m_laws_markIntS; rfl) a1, a2, a3, Tr.eq (fun m => by unfold m_laws_heldIntS; rfl) (a4 [])⟩
theorem markForm_loop : ∀ (xs d : List Form) (k : Int), (∀ x ∈ xs, MH m_laws_markFormS m_laws_heldFormS x.kids (3 * Form.ws x.kids)) → d.length + xs.length ≤ 4611686018427387904 → 0 ≤ k → k + (3 * Form.ws xs : Nat) ≤ 4611686018427387904 →
    ∃ v ys, Tr (fun m => m_laws_markFormS_l1 m k (d.length : Int) (d ++ xs)) (v, d ++ ys) ∧ k ≤ v ∧ v ≤ k + (3 * Form.ws xs : Nat) ∧ ∀ d' : List Form, Tr (fun m => m_laws_heldFormS_l1 m (d' ++ ys) k (d'.length : Int)) v
  | [], d, k, ih, hl, h0, h1 => ⟨k, [], Tr.step (fun m => by rw [m_laws_markFormS_l1, mk_lt_end, cond_false]) Tr.val, Int.le_refl _, by omega, fun d' => Tr.step (fun m => by rw [m_laws_heldFormS_l1, mk_lt_end, cond_false]) Tr.val⟩
  | .mk kd nm nn sc ks :: xs, d, k, ih, hl, h0, h1 => by
    rw [Form.ws, Form.w] at h1
    rw [List.length_cons] at hl
    obtain ⟨t, ht⟩ := markText_tr (k := k + 1) (by omega) (by omega)
    obtain ⟨v1, a, b1, b2, b3, b4⟩ := mhInt sc (k + 1 + 1 + 1) (by omega) (by omega)
    obtain ⟨v2, b, c1, c2, c3, c4⟩ := ih _ (List.mem_cons_self ..) v1 (by omega) (by show v1 + (3 * Form.ws ks : Nat) ≤ _; omega)
    have c3' : v2 ≤ v1 + (3 * Form.ws ks : Nat) := c3
    obtain ⟨v, ys, a1, a2, a3, a4⟩ := markForm_loop xs (d ++ [.mk k t (k + 1 + 1) a b]) v2 (fun x hx => ih x (List.mem_cons_of_mem _ hx)) (by simp; omega) (by omega) (by omega)
    have e1 := mk_wIn h0 (by omega)
    have e2 := mk_wIn (k := k + 1) (by omega) (by omega)
    have e3 := mk_wIn (k := k + 1 + 1) (by omega) (by omega)
    refine ⟨v, .mk k t (k + 1 + 1) a b :: ys, ?_, by omega, by rw [Form.ws, Form.w]; omega, fun d' => ?_⟩
    · refine Tr.step (fun m => by rewrite [m_laws_markFormS_l1]; simp only [Form.kind, Form.name, Form.n, Form.scopes, Form.kids, mk_lt_mid, cond_true, mk_idx_mid, Option.bind_some, mk_set_mid, e1, e2, e3]; rfl) ?_
      refine Tr.bind ht ?_
      refine Tr.bind b1 ?_
      refine Tr.bind c1 ?_
      refine Tr.eq (fun m => ?_) (mk_mid_app d (.mk k t (k + 1 + 1) a b) ys ▸ a1)
      rw [← mk_mid_app, ← mk_mid_lenw _ _ (by omega)]
    · refine Tr.step (fun m => by rewrite [m_laws_heldFormS_l1]; simp only [Form.kind, Form.name, Form.n, Form.scopes, Form.kids, mk_lt_mid, cond_true, mk_idx_mid, Option.bind_some, e1, e2, e3]; rfl) ?_
      refine Tr.ff (mk_ne_self_f k) ?_
      refine Tr.bind ht (Tr.ff (mk_ne_self_f t) (Tr.ff (mk_ne_self_f (k + 1 + 1)) ?_))
      refine Tr.bind b4 (Tr.ff (mk_not_neg (by omega)) ?_)
      refine Tr.bind c4 (Tr.ff (mk_not_neg (by omega)) ?_)
      refine Tr.eq (fun m => ?_) (a4 (d' ++ [.mk k t (k + 1 + 1) a b]))
      rw [← mk_mid_app, ← mk_mid_len]
theorem mhForm_n : ∀ (n : Nat) (l : List Form), Form.ws l ≤ n → MH m_laws_markFormS m_laws_heldFormS l (3 * Form.ws l) := by
  intro n
  induction n with
  | zero =>
    intro l hl k h0 h1
    have hx := Form.ws_len l
    have : l = [] := List.eq_nil_of_length_eq_zero (by omega)
    subst this
    obtain ⟨v, ys, a1, a2, a3, a4⟩ := markForm_loop [] [] k (fun x hx => by cases hx) (by simp) h0 h1
    exact ⟨v, ys, Tr.step (fun m => by rw [m_laws_markFormS]; rfl) a1, a2, a3, Tr.step (fun m => by rw [m_laws_heldFormS]; rfl) (a4 [])⟩
  | succ n ih =>
    intro l hl k h0 h1
    have hx := Form.ws_len l
    obtain ⟨v, ys, a1, a2, a3, a4⟩ := markForm_loop l [] k (fun x hx => ih _ (by
      have := Form.ws_mem hx
      obtain ⟨p1, p2, p3, p4, p5⟩ := x
      rw [Form.w] at this
      show Form.ws p5 ≤ n
      omega)) (by simp only [List.length_nil]; omega) h0 h1
    exact ⟨v, ys, Tr.step (fun m => by rw [m_laws_markFormS]; rfl) a1, a2, a3, Tr.step (fun m => by rw [m_laws_heldFormS]; rfl) (a4 [])⟩
theorem mhForms (l : List Form) : MH m_laws_markFormS m_laws_heldFormS l (3 * Form.ws l) := mhForm_n _ l (Nat.le_refl _)
theorem mhForm (f : Form) (k : Int) (h0 : 0 ≤ k) (h1 : k + (3 * f.w : Nat) ≤ 4611686018427387904) : ∃ v a b, Tr (fun m => m_laws_markForm m f k) (v, a, b) ∧ k ≤ v ∧ v ≤ k + (3 * f.w : Nat) ∧ ∀ kd nm nn, Tr (fun m => m_laws_heldForm m (.mk kd nm nn a b) k) v := by
  obtain ⟨p1, p2, p3, p4, p5⟩ := f
  rw [Form.w] at h1 ⊢
  obtain ⟨v1, a, b1, b2, b3, b4⟩ := mhInt p4 k h0 (by omega)
  obtain ⟨v2, b, c1, c2, c3, c4⟩ := mhForms p5 v1 (by omega) (by omega)
  refine ⟨v2, a, b, ?_, by omega, by omega, fun kd nm nn => ?_⟩
  · refine Tr.eq (fun m => by unfold m_laws_markForm; rfl) ?_
    exact Tr.bind b1 (Tr.bind c1 Tr.val)
  · refine Tr.eq (fun m => by unfold m_laws_heldForm; rfl) ?_
    refine Tr.bind b4 (Tr.ff (mk_not_neg (by omega)) ?_)
    refine Tr.bind c4 (Tr.ff (mk_not_neg (by omega)) Tr.val)
theorem markCore_loop : ∀ (xs d : List Core) (k : Int), (∀ x ∈ xs, MH m_laws_markCoreS m_laws_heldCoreS x.kids (3 * Core.ws x.kids)) → d.length + xs.length ≤ 4611686018427387904 → 0 ≤ k → k + (3 * Core.ws xs : Nat) ≤ 4611686018427387904 →
    ∃ v ys, Tr (fun m => m_laws_markCoreS_l1 m k (d.length : Int) (d ++ xs)) (v, d ++ ys) ∧ k ≤ v ∧ v ≤ k + (3 * Core.ws xs : Nat) ∧ ∀ d' : List Core, Tr (fun m => m_laws_heldCoreS_l1 m (d' ++ ys) k (d'.length : Int)) v
  | [], d, k, ih, hl, h0, h1 => ⟨k, [], Tr.step (fun m => by rw [m_laws_markCoreS_l1, mk_lt_end, cond_false]) Tr.val, Int.le_refl _, by omega, fun d' => Tr.step (fun m => by rw [m_laws_heldCoreS_l1, mk_lt_end, cond_false]) Tr.val⟩
  | .mk ck ci cn cm is (.mk kd nm nn sc ks) mn :: xs, d, k, ih, hl, h0, h1 => by
    rw [Core.ws, Core.w, Form.w] at h1
    rw [List.length_cons] at hl
    obtain ⟨t, ht⟩ := markText_tr (k := k + 1 + 1) (by omega) (by omega)
    obtain ⟨v1, i', b1, b2, b3, b4⟩ := mhInt is (k + 1 + 1 + 1 + 1) (by omega) (by omega)
    obtain ⟨t', ht'⟩ := markText_tr (k := v1 + 1) (by omega) (by omega)
    obtain ⟨v2, a, d1, d2, d3, d4⟩ := mhInt sc (v1 + 1 + 1 + 1) (by omega) (by omega)
    obtain ⟨v3, b, e1, e2, e3, e4⟩ := mhForms ks v2 (by omega) (by omega)
    obtain ⟨v4, mm, f1, f2, f3, f4⟩ := ih _ (List.mem_cons_self ..) v3 (by omega) (by show v3 + (3 * Core.ws mn : Nat) ≤ _; omega)
    have f3' : v4 ≤ v3 + (3 * Core.ws mn : Nat) := f3
    obtain ⟨v, ys, a1, a2, a3, a4⟩ := markCore_loop xs (d ++ [.mk k (k + 1) t (k + 1 + 1 + 1) i' (.mk v1 t' (v1 + 1 + 1) a b) mm]) v4 (fun x hx => ih x (List.mem_cons_of_mem _ hx)) (by simp; omega) (by omega) (by omega)
    have w1 := mk_wIn h0 (by omega)
    have w2 := mk_wIn (k := k + 1) (by omega) (by omega)
    have w3 := mk_wIn (k := k + 1 + 1) (by omega) (by omega)
    have w3' := mk_wIn (k := k + 1 + 1 + 1) (by omega) (by omega)
    have w4 := mk_wIn (k := v1) (by omega) (by omega)
    have w5 := mk_wIn (k := v1 + 1) (by omega) (by omega)
    have w6 := mk_wIn (k := v1 + 1 + 1) (by omega) (by omega)
    refine ⟨v, .mk k (k + 1) t (k + 1 + 1 + 1) i' (.mk v1 t' (v1 + 1 + 1) a b) mm :: ys, ?_, by omega, by rw [Core.ws, Core.w, Form.w]; omega, fun d' => ?_⟩
    · refine Tr.step (fun m => by rewrite [m_laws_markCoreS_l1]; simp only [Form.kind, Form.name, Form.n, Form.scopes, Form.kids, Core.kind, Core.id, Core.name, Core.n, Core.ids, Core.data, Core.kids, mk_lt_mid, cond_true, mk_idx_mid, Option.bind_some, mk_set_mid, w1, w2, w3, w3']; rfl) ?_
      refine Tr.bind ht (Tr.bind b1 ?_)
      refine Tr.eq (fun m => by simp only [w4, w5, w6]; rfl) (Tr.bind ht' ?_)
      refine Tr.bind d1 (Tr.bind e1 (Tr.bind f1 ?_))
      refine Tr.eq (fun m => ?_) (mk_mid_app d (.mk k (k + 1) t (k + 1 + 1 + 1) i' (.mk v1 t' (v1 + 1 + 1) a b) mm) ys ▸ a1)
      rw [← mk_mid_app, ← mk_mid_lenw _ _ (by omega)]
    · refine Tr.step (fun m => by rewrite [m_laws_heldCoreS_l1]; simp only [Form.kind, Form.name, Form.n, Form.scopes, Form.kids, Core.kind, Core.id, Core.name, Core.n, Core.ids, Core.data, Core.kids, mk_lt_mid, cond_true, mk_idx_mid, Option.bind_some, w1, w2, w3, w3']; rfl) ?_
      refine Tr.ff (mk_ne_self_f k) (Tr.ff (mk_ne_self_f (k + 1)) ?_)
      refine Tr.bind ht (Tr.ff (mk_ne_self_f t) (Tr.ff (mk_ne_self_f (k + 1 + 1 + 1)) ?_))
      refine Tr.bind b4 (Tr.ff (mk_not_neg (by omega)) ?_)
      refine Tr.eq (fun m => by simp only [w4, w5, w6]; rfl) ?_
      refine Tr.ff (mk_ne_self_f v1) ?_
      refine Tr.bind ht' (Tr.ff (mk_ne_self_f t') (Tr.ff (mk_ne_self_f (v1 + 1 + 1)) ?_))
      refine Tr.bind d4 (Tr.ff (mk_not_neg (by omega)) ?_)
      refine Tr.bind e4 (Tr.ff (mk_not_neg (by omega)) ?_)
      refine Tr.bind f4 (Tr.ff (mk_not_neg (by omega)) ?_)
      refine Tr.eq (fun m => ?_) (a4 (d' ++ [.mk k (k + 1) t (k + 1 + 1 + 1) i' (.mk v1 t' (v1 + 1 + 1) a b) mm]))
      rw [← mk_mid_app, ← mk_mid_len]
theorem mhCore_n : ∀ (n : Nat) (l : List Core), Core.ws l ≤ n → MH m_laws_markCoreS m_laws_heldCoreS l (3 * Core.ws l) := by
  intro n
  induction n with
  | zero =>
    intro l hl k h0 h1
    have hx := Core.ws_len l
    have : l = [] := List.eq_nil_of_length_eq_zero (by omega)
    subst this
    obtain ⟨v, ys, a1, a2, a3, a4⟩ := markCore_loop [] [] k (fun x hx => by cases hx) (by simp) h0 h1
    exact ⟨v, ys, Tr.step (fun m => by rw [m_laws_markCoreS]; rfl) a1, a2, a3, Tr.step (fun m => by rw [m_laws_heldCoreS]; rfl) (a4 [])⟩
  | succ n ih =>
    intro l hl k h0 h1
    have hx := Core.ws_len l
    obtain ⟨v, ys, a1, a2, a3, a4⟩ := markCore_loop l [] k (fun x hx => ih _ (by
      have := Core.ws_mem hx
      obtain ⟨p1, p2, p3, p4, p5, p6, p7⟩ := x
      rw [Core.w] at this
      show Core.ws p7 ≤ n
      omega)) (by simp only [List.length_nil]; omega) h0 h1
    exact ⟨v, ys, Tr.step (fun m => by rw [m_laws_markCoreS]; rfl) a1, a2, a3, Tr.step (fun m => by rw [m_laws_heldCoreS]; rfl) (a4 [])⟩
theorem mhCores (l : List Core) : MH m_laws_markCoreS m_laws_heldCoreS l (3 * Core.ws l) := mhCore_n _ l (Nat.le_refl _)
theorem mhCore (f : Core) (k : Int) (h0 : 0 ≤ k) (h1 : k + (3 * f.w : Nat) ≤ 4611686018427387904) : ∃ v i a b mm, Tr (fun m => m_laws_markCore m f k) (v, i, a, b, mm) ∧ k ≤ v ∧ v ≤ k + (3 * f.w : Nat) ∧ ∀ ck ci cn cm kd nm nn, Tr (fun m => m_laws_heldCore m (.mk ck ci cn cm i (.mk kd nm nn a b) mm) k) v := by
  obtain ⟨p1, p2, p3, p4, p5, p6, p7⟩ := f
  rw [Core.w] at h1 ⊢
  obtain ⟨v1, i, b1, b2, b3, b4⟩ := mhInt p5 k h0 (by omega)
  obtain ⟨v2, a, b, c1, c2, c3, c4⟩ := mhForm p6 v1 (by omega) (by omega)
  obtain ⟨v3, mm, d1, d2, d3, d4⟩ := mhCores p7 v2 (by omega) (by omega)
  refine ⟨v3, i, a, b, mm, ?_, by omega, by omega, fun ck ci cn cm kd nm nn => ?_⟩
  · refine Tr.eq (fun m => by unfold m_laws_markCore; rfl) ?_
    exact Tr.bind b1 (Tr.bind c1 (Tr.bind d1 Tr.val))
  · refine Tr.eq (fun m => by unfold m_laws_heldCore; rfl) ?_
    refine Tr.bind b4 (Tr.ff (mk_not_neg (by omega)) ?_)
    refine Tr.bind (c4 _ _ _) (Tr.ff (mk_not_neg (by omega)) ?_)
    refine Tr.bind d4 (Tr.ff (mk_not_neg (by omega)) Tr.val)
end Go.Abs
end
section
set_option linter.unusedVariables false
set_option linter.unusedSimpArgs false
set_option maxHeartbeats 2000000
namespace Go.Abs
theorem eqCore_self (c : Core) : Tr (fun m => m_laws_eqCore m c c) true := by have := eqCore_tr c c; rwa [same_self] at this
theorem FnExactNumberCore_law (c : Core) (hf : c.fit) : TQ (fun m => m_laws_FnExactNumberCore m c) (fun r => r = true) := by
  refine ⟨true, ?_, rfl⟩
  refine Tr.eq (fun m => by unfold m_laws_FnExactNumberCore; rfl) ?_
  obtain ⟨v, hv, hl⟩ := szCore_tq c 1048576 hf (by decide) (by decide)
  refine Tr.bind hv ?_
  rcases hl with rfl | ⟨h0, rfl⟩
  · exact Tr.tt rfl Tr.val
  refine Tr.ff (geZ h0) ?_
  have hw := c.w_wt
  have hb : c.w ≤ 2 ^ 36 := by omega
  have hr := (c.numbered_bd hf).1
  obtain ⟨v1, q1, q2, q3, q4, m1, m2, m3, m4⟩ := mhCore c 1 (by omega) (by omega)
  obtain ⟨v, p1, p2, p3, p4, a1, a2, a3, a4⟩ := mhCore c.numbered.1 1 (by omega) (by omega)
  have tc := toCore_tr c hb
  have ti := implNumberCore_tr c hf hb
  have es := eqCore_self c.numbered.1
  refine Tr.bind tc (Tr.bind (specNumberCore_tr c hf hb) (Tr.bind tc (Tr.bind ti (Tr.bind es (Tr.ff rfl ?_)))))
  refine Tr.eq (fun m => by rw [mk_ne_self_f]) ?_
  refine Tr.step (fun m => by rw [m_laws_FnExactNumberCore_j1]) ?_
  refine Tr.ff rfl ?_
  refine Tr.bind tc (Tr.bind (eqCore_self c) (Tr.ff rfl (Tr.bind m1 (Tr.ff (mk_not_neg (by show 0 ≤ v1; omega)) (Tr.bind es (Tr.ff rfl ?_))))))
  refine Tr.eq (fun m => by rw [mk_ne_self_f]) ?_
  refine Tr.step (fun m => by rw [m_laws_FnExactNumberCore_j2]) ?_
  refine Tr.ff rfl ?_
  refine Tr.bind a1 (Tr.bind (a4 _ _ _ _ _ _ _) (Tr.ff (mk_not_neg (by omega)) (Tr.ff (mk_ne_self_f v) ?_)))
  refine Tr.bind tc (Tr.bind ti (Tr.bind es (Tr.ff rfl ?_)))
  refine Tr.eq (fun m => by rw [mk_ne_self_f]) ?_
  refine Tr.step (fun m => by rw [m_laws_FnExactNumberCore_j3]) ?_
  refine Tr.ff rfl ?_
  exact Tr.bind (a4 _ _ _ _ _ _ _) (Tr.ff (mk_not_neg (by omega)) (Tr.ff (mk_ne_self_f v) Tr.val))
end Go.Abs
end
