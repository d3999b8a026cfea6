/- Drawn core programs. -/
import Derived.Test.YtpkelhmjemcogaaPureC
set_option linter.unusedVariables false
set_option linter.unusedSimpArgs false
set_option maxHeartbeats 1000000
namespace Go.Abs

/-- A free name has no parts. -/
def LeafK (c : Core) : Prop := c.kind = 2 → c.kids = []
abbrev fz0 : Form := Form.mk 0 (⟨#[]⟩ : ByteArray) 0 ([] : List Int) ([] : List Form)
/-- A drawn leaf that is no variable. -/
def leafF (x4 : Int) (v7 : Int × l15Rd) (fuel : Nat) : Option (Core × Int × l15Rd) :=
  (bif (decide (v7.1 = 0)) then
(m_spec_l1Some fuel v7.2 1).bind fun v9 =>
some ((Core.mk 4 0 (⟨#[]⟩ : ByteArray) 0 ([] : List Int) v9.1 ([] : List Core)), x4, v9.2)
else
(bif (decide (v7.1 = 1)) then
(m_spec_l15Rd_of fuel v7.2 [(⟨#[102]⟩ : ByteArray), (⟨#[43]⟩ : ByteArray), (⟨#[108, 105, 115, 116]⟩ : ByteArray)]).bind fun v11 =>
some ((Core.mk 2 0 v11.1 0 ([] : List Int) (Form.mk 0 (⟨#[]⟩ : ByteArray) 0 ([] : List Int) ([] : List Form)) ([] : List Core)), x4, v11.2)
else
(m_spec_l15Rd_num fuel v7.2 [0, 1, 5, 42]).bind fun v12 =>
some ((Core.mk 3 0 (⟨#[]⟩ : ByteArray) v12.1 ([] : List Int) (Form.mk 0 (⟨#[]⟩ : ByteArray) 0 ([] : List Int) ([] : List Form)) ([] : List Core)), x4, v12.2)))
theorem leafF_tq (x4 : Int) (v7 : Int × l15Rd) (K : Int) (h : OkRd v7.2 K) (hK : K + 16 ≤ 1000000000) : TQ (leafF x4 v7) (fun r => OkRd r.2.2 (K + 16) ∧ r.1.w ≤ 17 ∧ LeafK r.1) := by
  unfold leafF
  refine TQ.cond (fun _ => ?_) (fun _ => TQ.cond (fun _ => ?_) (fun _ => ?_))
  · refine TQ.bind (l1Some_tq 1 _ K h (by decide) (by simpa using hK)) (fun v hv => TQ.val ⟨by simpa using hv.1, ?_, fun _ => rfl⟩)
    have := hv.2
    simp only [Core.w, Core.ws, List.length_nil]
    omega
  · exact TQ.bind (of_tq _ _ _ h (by omega) (by decide)) (fun w hw => TQ.val ⟨hw.1.mono (by omega), by simp [Core.w, Core.ws, Form.w, Form.ws], fun _ => rfl⟩)
  · exact TQ.bind (num_tq _ _ _ h (by omega) (by decide)) (fun w hw => TQ.val ⟨hw.1.mono (by omega), by simp [Core.w, Core.ws, Form.w, Form.ws], fun _ => rfl⟩)
/-- A drawn leaf. -/
def leafV (x2 : List Int) (x4 : Int) (o1 : l15Rd) (fuel : Nat) : Option (Core × Int × l15Rd) :=
  (bif (decide (0 < (x2.length : Int))) then
(m_spec_l15Rd_pick fuel o1 3).bind fun v3 =>
(bif (decide (0 < v3.1)) then
(m_spec_l15Rd_pick fuel v3.2 (x2.length : Int)).bind fun v5 =>
(idx x2 v5.1).bind fun v6 =>
some ((Core.mk 1 v6 (⟨#[]⟩ : ByteArray) 0 ([] : List Int) (Form.mk 0 (⟨#[]⟩ : ByteArray) 0 ([] : List Int) ([] : List Form)) ([] : List Core)), x4, v5.2)
else
(m_spec_l15Rd_pick fuel v3.2 4).bind fun v7 => leafF x4 v7 fuel)
else
(m_spec_l15Rd_pick fuel o1 4).bind fun v13 => leafF x4 v13 fuel)
theorem leafV_tq (x2 : List Int) (x4 : Int) (o : l15Rd) (K : Int) (h : OkRd o K) (hK : K + 20 ≤ 1000000000) : TQ (leafV x2 x4 o) (fun r => OkRd r.2.2 (K + 20) ∧ r.1.w ≤ 17 ∧ LeafK r.1) := by
  unfold leafV
  refine TQ.cond (fun hc => ?_) (fun _ => ?_)
  · refine TQ.bind (pick_tq _ 3 _ h (by omega)) (fun v hv => ?_)
    refine TQ.cond (fun _ => ?_) (fun _ => ?_)
    · refine TQ.bind (pick_tq _ _ _ hv.1 (by omega)) (fun w hw => ?_)
      obtain ⟨h1, _, h2, _⟩ := hw
      obtain ⟨h2, h3⟩ := h2 (by simpa using hc)
      exact TQ.idx h2 h3 (fun x hx => TQ.val ⟨h1.mono (by omega), by simp [Core.w, Core.ws, Form.w, Form.ws], fun _ => rfl⟩)
    · refine TQ.bind (pick_tq _ 4 _ hv.1 (by omega)) (fun w hw => ?_)
      exact (leafF_tq x4 w _ hw.1 (by omega)).mono (fun r hr => ⟨hr.1.mono (by omega), hr.2⟩)
  · refine TQ.bind (pick_tq _ 4 _ h (by omega)) (fun w hw => ?_)
    exact (leafF_tq x4 w _ hw.1 (by omega)).mono (fun r hr => ⟨hr.1.mono (by omega), hr.2⟩)

theorem l6Some_tq : ∀ (d : Nat) (o : l15Rd) (ids : List Int) (next : Int) (K : Int), OkRd o K → d ≤ 10 → ids.length + 2 * d ≤ 1000 → K + ((24 * 4 ^ d : Nat) : Int) ≤ 1000000000 → TQ (fun m => m_spec_l6Some m o ids (d : Int) next) (fun r => OkRd r.2.2 (K + ((24 * 4 ^ d : Nat) : Int)) ∧ r.1.w ≤ 24 * 4 ^ d ∧ LeafK r.1) := by
  intro d
  induction d with
  | zero =>
    intro o ids next K h hd hids hK
    refine TQ.step (fun m => by rw [m_spec_l6Some]) ?_
    refine TQ.cond (fun hc => ?_) (fun hc => by simp at hc)
    exact (leafV_tq ids next o K h (by simp at hK; omega)).mono (fun r hr => ⟨hr.1.mono (by simp), by simp; omega, hr.2.2⟩)
  | succ d ih =>
    intro o ids next K h hd hids hK
    have p1 := pow4 d
    have p2 := pow4s d
    refine TQ.step (fun m => by rw [m_spec_l6Some]) ?_
    refine TQ.cond (fun hc => by exfalso; simp at hc; omega) (fun hc => ?_)
    refine TQ.bind (pick_tq o 4 K h (by omega)) (fun v hv => ?_)
    refine TQ.cond (fun _ => ?_) (fun _ => ?_)
    · exact (leafV_tq ids next v.2 _ hv.1 (by omega)).mono (fun r hr => ⟨hr.1.mono (by omega), by omega, hr.2.2⟩)
    have ed : w64 (((d + 1 : Nat) : Int) - 1) = (d : Int) := by rw [w64_in (by omega)]; omega
    have B0 : (0 : Int) ≤ ((24 * 4 ^ d : Nat) : Int) := by omega
    have mulS : ∀ j : Nat, ((j + 1 : Nat) : Int) * ((24 * 4 ^ d : Nat) : Int) = (j : Int) * ((24 * 4 ^ d : Nat) : Int) + ((24 * 4 ^ d : Nat) : Int) := fun j => by rw [Int.natCast_add, Int.add_mul]; simp
    have mulS' : ∀ j : Nat, (j + 1) * (1 + 24 * 4 ^ d) = j * (1 + 24 * 4 ^ d) + (1 + 24 * 4 ^ d) := fun j => by rw [Nat.add_mul]; omega
    have mul0 : ∀ j : Nat, 0 ≤ (j : Int) * ((24 * 4 ^ d : Nat) : Int) := fun j => Int.mul_nonneg (by omega) B0
    have mulL : ∀ j : Nat, j ≤ 3 → (j : Int) * ((24 * 4 ^ d : Nat) : Int) ≤ 3 * ((24 * 4 ^ d : Nat) : Int) := fun j hj => Int.mul_le_mul_of_nonneg_right (by omega) B0
    have mulL' : ∀ j : Nat, j ≤ 3 → j * (1 + 24 * 4 ^ d) ≤ 3 * (1 + 24 * 4 ^ d) := fun j hj => Nat.mul_le_mul_right _ hj
    refine TQ.bind (num_tq _ _ _ hv.1 (by omega) (by decide)) (fun v38 hv38 => ?_)
    obtain ⟨h38, hm38⟩ := hv38
    have hk38 : v38.1 ≠ 2 := by
      simp at hm38
      omega
    refine TQ.cond (fun _ => ?_) (fun _ => TQ.cond (fun _ => ?_) (fun _ => ?_))
    · -- a function
      have two : ∀ (g41 g46 : List Int) (g53 : Int) (b : List Int) (p : Int) (K' : Int), OkRd ⟨b, p⟩ K' → K' + ((24 * 4 ^ d : Nat) : Int) ≤ 1000000000 → g41.length + 2 * d ≤ 1000 → g46.length ≤ 3 →
          TQ (fun m => m_spec_l6Some_l2 m ((d + 1 : Nat) : Int) v38 g41 g46 g53 0 b p []) (fun r => OkRd r.2.2 (K' + ((24 * 4 ^ d : Nat) : Int)) ∧ r.1.w ≤ 6 + 24 * 4 ^ d ∧ LeafK r.1) := by
        intro g41 g46 g53 b p K' hb hK' hg41 hg46
        refine TQ.step (fun m => by rw [m_spec_l6Some_l2, ed]) ?_
        refine TQ.cond (fun hc => ?_) (fun hc => by exfalso; simp at hc)
        refine TQ.bind (ih _ g41 g53 K' hb (by omega) hg41 hK') (fun v hv => ?_)
        refine TQ.chk (by simp) ?_
        refine TQ.step (fun m => by rw [m_spec_l6Some_l2]) ?_
        refine TQ.cond (fun hc => by exfalso; rw [w64_in (by omega)] at hc; simp at hc) (fun hc => TQ.val ⟨hv.1.mk', ?_, fun h => absurd h hk38⟩)
        have := hv.2.1
        simp only [Core.w, Core.ws, Form.w, Form.ws, List.length_nil, List.nil_append]
        omega
      refine TQ.bind (num_tq _ _ _ h38 (by omega) (by decide)) (fun v40 hv40 => ?_)
      obtain ⟨h40, hm40⟩ := hv40
      have one : ∀ (j : Nat) (g41 : List Int) (g42 : Int) (b : List Int) (p : Int) (g46 : List Int) (K' : Int), j ≤ 2 → OkRd ⟨b, p⟩ K' → K' + j + ((24 * 4 ^ d : Nat) : Int) ≤ 1000000000 → g41.length + j + 2 * d ≤ 1000 → g46.length + j ≤ 3 →
          TQ (fun m => m_spec_l6Some_l1 m ((d + 1 : Nat) : Int) v38 g41 g42 (j : Int) b p g46) (fun r => OkRd r.2.2 (K' + j + ((24 * 4 ^ d : Nat) : Int)) ∧ r.1.w ≤ 6 + 24 * 4 ^ d ∧ LeafK r.1) := by
        intro j
        induction j with
        | zero =>
          intro g41 g42 b p g46 K' hj hb hK' h41 h46
          refine TQ.step (fun m => by rw [m_spec_l6Some_l1]) ?_
          refine TQ.cond (fun hc => by exfalso; simp at hc) (fun hc => ?_)
          exact (two g41 g46 g42 b p K' hb (by omega) (by omega) (by omega)).mono (fun r hr => ⟨hr.1.mono (by omega), hr.2⟩)
        | succ j ihj =>
          intro g41 g42 b p g46 K' hj hb hK' h41 h46
          refine TQ.step (fun m => by rw [m_spec_l6Some_l1]) ?_
          refine TQ.cond (fun hc => ?_) (fun hc => by exfalso; simp at hc; try omega)
          refine TQ.bind (num_tq _ _ _ hb (by omega) (by decide)) (fun v hv => ?_)
          refine TQ.chk (by simp; omega) (TQ.chk (by simp; omega) (TQ.chk (by simp; omega) ?_))
          have ew : w64 (((j + 1 : Nat) : Int) - 1) = (j : Int) := by rw [w64_in (by omega)]; omega
          rw [ew]
          exact (ihj _ _ _ _ _ _ (by omega) hv.1.mk' (by omega) (by simp; omega) (by simp; omega)).mono (fun r hr => ⟨hr.1.mono (by omega), hr.2⟩)
      have hj : v40.1 = ((1 : Nat) : Int) ∨ v40.1 = ((2 : Nat) : Int) ∨ v40.1 = ((0 : Nat) : Int) := by simpa using hm40
      rcases hj with e | e | e <;> rw [e]
      · exact (one 1 ids next _ _ [] _ (by omega) h40.mk' (by omega) (by omega) (by simp)).mono (fun r hr => ⟨hr.1.mono (by omega), by omega, hr.2.2⟩)
      · exact (one 2 ids next _ _ [] _ (by omega) h40.mk' (by omega) (by omega) (by simp)).mono (fun r hr => ⟨hr.1.mono (by omega), by omega, hr.2.2⟩)
      · exact (one 0 ids next _ _ [] _ (by omega) h40.mk' (by omega) (by omega) (by simp)).mono (fun r hr => ⟨hr.1.mono (by omega), by omega, hr.2.2⟩)
    · -- a call
      refine TQ.bind (num_tq _ _ _ h38 (by omega) (by decide)) (fun v63 hv63 => ?_)
      obtain ⟨h63, hm63⟩ := hv63
      have three : ∀ (N j : Nat) (g64 : Int) (b : List Int) (p : Int) (g68 : List Core) (K' : Int), v63.1 = ((N : Nat) : Int) → N ≤ 3 → j ≤ N → OkRd ⟨b, p⟩ K' → K' + (j : Int) * ((24 * 4 ^ d : Nat) : Int) ≤ 1000000000 → g68.length ≤ 3 - j →
          TQ (fun m => m_spec_l6Some_l3 m ids ((d + 1 : Nat) : Int) v38 v63 g64 (((N - j : Nat)) : Int) b p g68) (fun r => OkRd r.2.2 (K' + (j : Int) * ((24 * 4 ^ d : Nat) : Int)) ∧ r.1.w ≤ 2 + Core.ws g68 + j * (1 + 24 * 4 ^ d) ∧ LeafK r.1) := by
        intro N j
        induction j with
        | zero =>
          intro g64 b p g68 K' hN hN3 hj hb hK' hl
          refine TQ.step (fun m => by rw [m_spec_l6Some_l3]) ?_
          refine TQ.cond (fun hc => by exfalso; rw [hN] at hc; simp at hc) (fun hc => TQ.val ⟨hb.mono (by simp), ?_, fun h => absurd h hk38⟩)
          simp only [Core.w, Form.w, Form.ws, List.length_nil]; omega
        | succ j ihj =>
          intro g64 b p g68 K' hN hN3 hj hb hK' hl
          have m1 := mulS j
          have m2 := mulS' j
          have m3 := mul0 j
          refine TQ.step (fun m => by rw [m_spec_l6Some_l3, ed]) ?_
          refine TQ.cond (fun hc => ?_) (fun hc => by exfalso; rw [hN] at hc; simp at hc; omega)
          refine TQ.bind (ih _ ids g64 K' hb (by omega) (by omega) (by omega)) (fun v hv => ?_)
          refine TQ.chk (by simp; omega) ?_
          have ew : w64 (((N - (j + 1) : Nat) : Int) + 1) = ((N - j : Nat) : Int) := by rw [w64_in (by omega)]; omega
          rw [ew]
          refine (ihj _ _ _ _ _ hN hN3 (by omega) hv.1.mk' (by omega) (by simp; omega)).mono (fun r hr => ⟨hr.1.mono (by omega), ?_, hr.2.2⟩)
          have := hr.2.1
          rw [Core.ws_append] at this
          simp only [Core.ws] at this
          have hv2 := hv.2.1
          omega
      have hj : v63.1 = ((2 : Nat) : Int) ∨ v63.1 = ((1 : Nat) : Int) ∨ v63.1 = ((3 : Nat) : Int) := by simpa using hm63
      have fin : ∀ N : Nat, v63.1 = (N : Int) → N ≤ 3 → TQ (fun m => m_spec_l6Some_l3 m ids ((d + 1 : Nat) : Int) v38 v63 next 0 v63.2.b v63.2.p []) (fun r => OkRd r.2.2 (K + ((24 * 4 ^ (d + 1) : Nat) : Int)) ∧ r.1.w ≤ 24 * 4 ^ (d + 1) ∧ LeafK r.1) := by
        intro N hN hN3
        have m1 := mulL N hN3
        have m2 := mulL' N hN3
        have := three N N next v63.2.b v63.2.p [] _ hN hN3 (Nat.le_refl _) h63.mk' (by omega) (by simp)
        rw [Nat.sub_self] at this
        refine this.mono (fun r hr => ⟨hr.1.mono (by omega), ?_, hr.2.2⟩)
        have := hr.2.1
        simp only [Core.ws] at this
        omega
      rcases hj with e | e | e
      · exact fin 2 e (by omega)
      · exact fin 1 e (by omega)
      · exact fin 3 e (by omega)
    · -- a choice
      have four : ∀ (j : Nat) (g73 : Int) (b : List Int) (p : Int) (g77 : List Core) (K' : Int), j ≤ 3 → OkRd ⟨b, p⟩ K' → K' + (j : Int) * ((24 * 4 ^ d : Nat) : Int) ≤ 1000000000 → g77.length ≤ 3 - j →
          TQ (fun m => m_spec_l6Some_l4 m ids ((d + 1 : Nat) : Int) v38 g73 (((3 - j : Nat)) : Int) b p g77) (fun r => OkRd r.2.2 (K' + (j : Int) * ((24 * 4 ^ d : Nat) : Int)) ∧ r.1.w ≤ 2 + Core.ws g77 + j * (1 + 24 * 4 ^ d) ∧ LeafK r.1) := by
        intro j
        induction j with
        | zero =>
          intro g73 b p g77 K' hj hb hK' hl
          refine TQ.step (fun m => by rw [m_spec_l6Some_l4]) ?_
          refine TQ.cond (fun hc => by exfalso; simp at hc) (fun hc => TQ.val ⟨hb.mono (by simp), ?_, fun h => absurd h hk38⟩)
          simp only [Core.w, Form.w, Form.ws, List.length_nil]; omega
        | succ j ihj =>
          intro g73 b p g77 K' hj hb hK' hl
          have m1 := mulS j
          have m2 := mulS' j
          have m3 := mul0 j
          refine TQ.step (fun m => by rw [m_spec_l6Some_l4, ed]) ?_
          refine TQ.cond (fun hc => ?_) (fun hc => by exfalso; simp at hc; try omega)
          refine TQ.bind (ih _ ids g73 K' hb (by omega) (by omega) (by omega)) (fun v hv => ?_)
          refine TQ.chk (by simp; omega) ?_
          have ew : w64 (((3 - (j + 1) : Nat) : Int) + 1) = ((3 - j : Nat) : Int) := by rw [w64_in (by omega)]; omega
          rw [ew]
          refine (ihj _ _ _ _ _ (by omega) hv.1.mk' (by omega) (by simp; omega)).mono (fun r hr => ⟨hr.1.mono (by omega), ?_, hr.2.2⟩)
          have := hr.2.1
          rw [Core.ws_append] at this
          simp only [Core.ws] at this
          have hv2 := hv.2.1
          omega
      have m1 := mulL 3 (by omega)
      have m2 := mulL' 3 (by omega)
      refine (four 3 next v38.2.b v38.2.p [] _ (by omega) h38.mk' (by omega) (by simp)).mono (fun r hr => ⟨hr.1.mono (by omega), ?_, hr.2.2⟩)
      have := hr.2.1
      simp only [Core.ws] at this
      omega
/-! ### changed in places -/
theorem Core.ws_set : ∀ (l : List Core) (i : Nat) (x : Core) (B : Nat), (∀ y, l[i]? = some y → x.w ≤ y.w + B) → Core.ws (l.set i x) ≤ Core.ws l + B
  | [], i, x, B, _ => by simp [Core.ws]
  | y :: l, 0, x, B, h => by
    have := h y rfl
    rw [List.set_cons_zero, Core.ws, Core.ws]; omega
  | y :: l, i + 1, x, B, h => by
    have := Core.ws_set l i x B (fun z hz => h z (by simpa using hz))
    rw [List.set_cons_succ, Core.ws, Core.ws]; omega
def mutL (v1 : Core) (o1 : l15Rd) (fuel : Nat) : Option (Core × l15Rd) :=
(m_spec_l15Rd_pick fuel o1 12).bind fun v9 =>
(bif (decide (v9.1 = 0)) then
(m_spec_l15Rd_num fuel v9.2 [0, 8, 3, 6]).bind fun v11 =>
some ((Core.mk v11.1 v1.id v1.name v1.n v1.ids v1.data v1.kids), v11.2)
else
(bif (decide (v9.1 = 1)) then
(m_spec_l15Rd_num fuel v9.2 [0, 1, 1000, 2]).bind fun v13 =>
some ((Core.mk v1.kind v13.1 v1.name v1.n v1.ids v1.data v1.kids), v13.2)
else
(bif (decide (v9.1 = 2)) then
(m_spec_l15Rd_num fuel v9.2 [1, 900, 0]).bind fun v15 =>
chk (decide ((v1.ids.length + [v15.1].length) * 8 ≤ 140737488355328)) <|
some ((Core.mk v1.kind v1.id v1.name v1.n (v1.ids ++ [v15.1]) v1.data v1.kids), v15.2)
else
(bif (decide (v9.1 = 3)) then
(m_spec_l15Rd_of fuel v9.2 [(⟨#[]⟩ : ByteArray), (⟨#[103]⟩ : ByteArray), (⟨#[65]⟩ : ByteArray)]).bind fun v18 =>
some ((Core.mk v1.kind v1.id v18.1 v1.n v1.ids v1.data v1.kids), v18.2)
else
some (v1, v9.2)))))
theorem mutL_tq (v1 : Core) (o : l15Rd) (K : Int) (h : OkRd o K) (hK : K + 2 ≤ 1000000000) (hw : v1.w ≤ 2 ^ 36) : TQ (mutL v1 o) (fun r => OkRd r.2 (K + 2) ∧ r.1.w ≤ v1.w + 1 ∧ (LeafK v1 → LeafK r.1)) := by
  have hk := v1.w_kids
  unfold mutL
  refine TQ.bind (pick_tq o 12 _ h (by omega)) (fun v hv => ?_)
  refine TQ.cond (fun _ => ?_) (fun _ => TQ.cond (fun _ => ?_) (fun _ => TQ.cond (fun _ => ?_) (fun _ => TQ.cond (fun _ => ?_) (fun _ => ?_))))
  · exact TQ.bind (num_tq _ _ _ hv.1 (by omega) (by decide)) (fun w hw => TQ.val ⟨hw.1.mono (by omega), by simp only [Core.w]; omega, fun _ h => by
      have h : w.1 = 2 := h
      have := hw.2
      rw [h] at this
      simp at this⟩)
  · exact TQ.bind (num_tq _ _ _ hv.1 (by omega) (by decide)) (fun w hw => TQ.val ⟨hw.1.mono (by omega), by simp only [Core.w]; omega, fun hL => hL⟩)
  · exact TQ.bind (num_tq _ _ _ hv.1 (by omega) (by decide)) (fun w hw => TQ.chk (by simp; omega) (TQ.val ⟨hw.1.mono (by omega), by simp only [Core.w, List.length_append, List.length_cons, List.length_nil]; omega, fun hL => hL⟩))
  · exact TQ.bind (of_tq _ _ _ hv.1 (by omega) (by decide)) (fun w hw => TQ.val ⟨hw.1.mono (by omega), by simp only [Core.w]; omega, fun hL => hL⟩)
  · exact TQ.val ⟨hv.1.mono (by omega), Nat.le_succ _, fun hL => hL⟩
theorem l6Mutate_tq : ∀ (n : Nat) (c : Core) (o : l15Rd) (K : Int), c.w ≤ n → OkRd o K → c.w ≤ 2 ^ 30 → K + 3 * c.w ≤ 100000000000 → K + 3 * c.w ≤ 1000000000 → TQ (fun m => m_spec_l6Mutate m o c) (fun r => OkRd r.2 (K + 3 * c.w) ∧ r.1.w ≤ c.w + 1 ∧ (LeafK c → LeafK r.1)) := by
  intro n
  induction n with
  | zero => intro c o K h; have := c.w_kids; omega
  | succ n ih =>
    intro c o K h ho hb hK hK2
    have hw := c.w_kids
    refine TQ.step (fun m => by rw [m_spec_l6Mutate]) ?_
    refine TQ.ev (l6Copy_tr _ c (Nat.le_refl _) (by omega)) ?_
    refine TQ.cond (fun hc => ?_) (fun _ => ?_)
    · have hpos : 0 < c.kids.length := by simpa using hc
      have hl := Core.ws_len c.kids
      refine TQ.bind (pick_tq o 2 _ ho (by omega)) (fun v hv => ?_)
      refine TQ.cond (fun _ => ?_) (fun _ => ?_)
      · refine TQ.bind (pick_tq _ _ _ hv.1 (by omega)) (fun w hw2 => ?_)
        obtain ⟨h1, _, h2, _⟩ := hw2
        obtain ⟨h2, h3⟩ := h2 (by omega)
        obtain ⟨x, hx, hm⟩ := idx_int h2 h3
        have hxw := Core.ws_mem hm
        have hx2 := (idx_some hx).2.2
        obtain ⟨r, hr, q1, q2, _⟩ := ih x w.2 _ (by omega) h1 (by omega) (by omega) (by omega)
        refine ⟨_, Tr.idx hx (Tr.bind hr (Tr.idx hx Tr.val)), q1.mono (by omega), ?_, fun hL h2 => by have := hL h2; rw [this] at hpos; simp at hpos⟩
        have := Core.ws_set c.kids w.1.toNat r.1 1 (fun y hy => by rw [hx2] at hy; cases hy; exact q2)
        simp only [Core.w]; omega
      · exact (mutL_tq c _ _ hv.1 (by omega) (by omega)).mono (fun r hr => ⟨hr.1.mono (by omega), hr.2⟩)
    · exact (mutL_tq c _ _ ho (by omega) (by omega)).mono (fun r hr => ⟨hr.1.mono (by omega), hr.2⟩)
theorem l6Draw_tq (code : List Int) (h : ∀ x ∈ code, 0 ≤ x ∧ x < 256) : TQ (fun m => m_spec_l6Draw m code) (fun c => c.w ≤ 2 ^ 20 ∧ LeafK c) := by
  refine TQ.eq (fun m => by unfold m_spec_l6Draw; rfl) ?_
  refine TQ.bind (open_tq code h) (fun o ho => ?_)
  refine TQ.bind (num_tq _ _ _ ho (by omega) (by decide)) (fun v hv => ?_)
  obtain ⟨h1, hm⟩ := hv
  have hd : ∃ d : Nat, v.1 = (d : Int) ∧ d ≤ 4 := by
    have : v.1 = 3 ∨ v.1 = 4 ∨ v.1 = 2 := by simpa using hm
    rcases this with e | e | e
    · exact ⟨3, e, by omega⟩
    · exact ⟨4, e, by omega⟩
    · exact ⟨2, e, by omega⟩
  obtain ⟨d, hd, hd4⟩ := hd
  rw [hd]
  have hp : 4 ^ d ≤ 4 ^ 4 := Nat.pow_le_pow_right (by decide) hd4
  have e4 : (4 : Nat) ^ 4 = 256 := rfl
  refine TQ.bind (l6Some_tq d v.2 [] 0 _ h1 (by omega) (by simp; omega) (by omega)) (fun w hw => ?_)
  obtain ⟨h2, hw, hL⟩ := hw
  refine TQ.bind (pick_tq _ 8 _ h2 (by omega)) (fun u hu => ?_)
  refine TQ.cond (fun _ => ?_) (fun _ => TQ.val ⟨by omega, hL⟩)
  refine TQ.bind (l6Mutate_tq _ w.1 u.2 _ (Nat.le_refl _) hu.1 (by omega) (by omega) (by omega)) (fun y hy => ?_)
  refine TQ.bind (l6Mutate_tq _ y.1 y.2 _ (Nat.le_refl _) hy.1 (by omega) (by omega) (by omega)) (fun z hz => ?_)
  exact TQ.val ⟨by omega, hz.2.2 (hy.2.2 hL)⟩
theorem DrawFreeOf_tq (code : List Int) (h : ∀ x ∈ code, 0 ≤ x ∧ x < 256) : TQ (fun m => m_spec_DrawFreeOf m code) (fun c => c.w ≤ 2 ^ 20 ∧ LeafK c) :=
  TQ.eq (fun m => by unfold m_spec_DrawFreeOf; rfl) (TQ.bind (l6Draw_tq code h) (fun v hv => TQ.val hv))
theorem DrawCoreSize_tq (code : List Int) (h : ∀ x ∈ code, 0 ≤ x ∧ x < 256) : TQ (fun m => m_spec_DrawCoreSize m code) (fun c => c.w ≤ 2 ^ 20 ∧ LeafK c) :=
  TQ.eq (fun m => by unfold m_spec_DrawCoreSize; rfl) (TQ.bind (l6Draw_tq code h) (fun v hv => TQ.val hv))
end Go.Abs
