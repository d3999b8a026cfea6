/- A part of the proof: what the functions that the law calls answer, as pure values. -/
import Derived.Test.YtdlfmjbmnopaiaaK566d99bbca90
import Derived.Test.YtdlfmjbmnopaiaaK780d2eb56f1c
import Derived.Test.YtdlfmjbmnopaiaaKd138c561ec50
import Derived.Test.YtdlfmjbmnopaiaaKd2a5c842ad72
set_option linter.unusedSimpArgs false
set_option linter.unusedVariables false
section
set_option linter.unusedVariables false
set_option linter.unusedSimpArgs false
set_option maxHeartbeats 4000000
namespace Go.Abs
theorem nm_fit {l : List ByteArray} (h : l.all (fun s => decide (s.size ≤ 100)) = true) {x : ByteArray} (hx : x ∈ l) : x.size ≤ 9223372036854775807 := by
  have := List.all_eq_true.1 h x hx
  have := of_decide_eq_true this
  omega
theorem leaf_fit {k : Int} {nm : ByteArray} {n : Int} (h : nm.size ≤ 9223372036854775807) : (Form.mk k nm n [] []).fit := by rw [Form.fit]; exact ⟨h, by simp, by simp, trivial⟩
theorem core_fit {k i : Int} {nm : ByteArray} {n : Int} {ids : List Int} {d : Form} {kids : List Core} (h1 : nm.size ≤ 9223372036854775807) (h2 : ids.length ≤ 9223372036854775807) (h3 : d.fit) (h4 : kids.length ≤ 9223372036854775807) (h5 : Core.fits kids) : (Core.mk k i nm n ids d kids).fit := by rw [Core.fit]; exact ⟨h1, h2, h3, h4, h5⟩
theorem form_one {f : Form} (h : f.fit) : Form.fits [f] := by rw [Form.fits]; exact ⟨h, trivial⟩
theorem core_one {f : Core} (h : f.fit) : Core.fits [f] := by rw [Core.fits]; exact ⟨h, trivial⟩
theorem Core.fits_app : ∀ {a b : List Core}, Core.fits a → Core.fits b → Core.fits (a ++ b)
  | [], b, _, h => h
  | x :: xs, b, h1, h2 => by rw [Core.fits] at h1; rw [List.cons_append, Core.fits]; exact ⟨h1.1, Core.fits_app h1.2 h2⟩
theorem Core.fits_set : ∀ (l : List Core) (i : Nat) (x : Core), Core.fits l → x.fit → Core.fits (l.set i x)
  | [], i, x, h, _ => h
  | y :: l, 0, x, h, hx => by rw [Core.fits] at h; rw [List.set_cons_zero, Core.fits]; exact ⟨hx, h.2⟩
  | y :: l, i + 1, x, h, hx => by rw [Core.fits] at h; rw [List.set_cons_succ, Core.fits]; exact ⟨h.1, Core.fits_set l i x h.2 hx⟩
theorem pow4 (d : Nat) : 1 ≤ 4 ^ d := Nat.pos_of_ne_zero (by simp)
theorem pow4s (d : Nat) : 4 ^ (d + 1) = 4 * 4 ^ d := by rw [Nat.pow_succ]; omega
theorem l1Some_tq : ∀ (d : Nat) (o : l15Rd) (K : Int), OkRd o K → d ≤ 12 → K + ((4 ^ (d + 1) : Nat) : Int) ≤ 1000000000 → TQ (fun m => m_spec_l1Some m o (d : Int)) (fun r => OkRd r.2 (K + ((4 ^ (d + 1) : Nat) : Int)) ∧ r.1.w ≤ 4 ^ (d + 1) ∧ r.1.fit) := by
  intro d
  induction d with
  | zero =>
    intro o K h hd hK
    refine TQ.step (fun m => by rw [m_spec_l1Some]) ?_
    refine TQ.cond (fun hc => ?_) (fun hc => by simp at hc)
    refine TQ.bind (pick_tq o 4 K h (by omega)) (fun v hv => ?_)
    refine TQ.cond (fun _ => ?_) (fun _ => ?_)
    · refine TQ.bind (num_tq _ _ _ hv.1 (by omega) (by decide)) (fun w hw => TQ.val ⟨hw.1.mono (by simp; omega), by simp [Form.w, Form.ws], leaf_fit (by decide)⟩)
    · refine TQ.bind (of_tq _ _ _ hv.1 (by omega) (by decide)) (fun w hw => ?_)
      exact TQ.ev (Tr.of (fun m => rfl)) (TQ.val ⟨hw.1.mono (by simp; omega), by simp [Form.w, Form.ws], leaf_fit (nm_fit (by decide) hw.2)⟩)
  | succ d ih =>
    intro o K h hd hK
    have p1 := pow4 d
    have p2 := pow4s d
    have p3 := pow4s (d + 1)
    refine TQ.step (fun m => by rw [m_spec_l1Some]) ?_
    refine TQ.cond (fun hc => by simp at hc; omega) (fun hc => ?_)
    refine TQ.bind (pick_tq o 3 K h (by omega)) (fun v hv => ?_)
    refine TQ.cond (fun _ => ?_) (fun _ => ?_)
    · refine TQ.bind (pick_tq _ 4 _ hv.1 (by omega)) (fun v hv => ?_)
      refine TQ.cond (fun _ => ?_) (fun _ => ?_)
      · refine TQ.bind (num_tq _ _ _ hv.1 (by omega) (by decide)) (fun w hw => TQ.val ⟨hw.1.mono (by omega), by simp only [Form.w, Form.ws, List.length_nil]; omega, leaf_fit (by decide)⟩)
      · refine TQ.bind (of_tq _ _ _ hv.1 (by omega) (by decide)) (fun w hw => ?_)
        exact TQ.ev (Tr.of (fun m => rfl)) (TQ.val ⟨hw.1.mono (by omega), by simp only [Form.w, Form.ws, List.length_nil]; omega, leaf_fit (nm_fit (by decide) hw.2)⟩)
    · refine TQ.bind (pick_tq _ 4 _ hv.1 (by omega)) (fun v hv => ?_)
      obtain ⟨h1, _, h2, _⟩ := hv
      obtain ⟨h2, h3⟩ := h2 (by decide)
      have ed : w64 (((d + 1 : Nat) : Int) - 1) = (d : Int) := by rw [w64_in (by omega)]; omega
      have key : ∀ (j : Nat) (b : List Int) (p : Int) (l : List Form) (K' : Int), j ≤ 3 → OkRd ⟨b, p⟩ K' → K' + (j : Int) * ((4 ^ (d + 1) : Nat) : Int) ≤ 1000000000 → l.length ≤ 3 - j → Form.fits l →
          TQ (fun m => m_spec_l1Some_l1 m ((d + 1 : Nat) : Int) (j : Int) b p l) (fun r => OkRd r.2 (K' + (j : Int) * ((4 ^ (d + 1) : Nat) : Int)) ∧ r.1.w ≤ 1 + Form.ws l + j * (1 + 4 ^ (d + 1)) ∧ r.1.fit) := by
        intro j
        induction j with
        | zero =>
          intro b p l K' hj hb hK' hl hfl
          refine TQ.step (fun m => by rw [m_spec_l1Some_l1]) ?_
          refine TQ.cond (fun hc => by simp at hc) (fun hc => TQ.val ⟨hb.mono (by simp), by simp [Form.w], by rw [Form.fit]; exact ⟨by decide, by simp, by omega, hfl⟩⟩)
        | succ j ihj =>
          intro b p l K' hj hb hK' hl hfl
          have em : ((j + 1 : Nat) : Int) * ((4 ^ (d + 1) : Nat) : Int) = (j : Int) * ((4 ^ (d + 1) : Nat) : Int) + ((4 ^ (d + 1) : Nat) : Int) := by rw [Int.natCast_add, Int.add_mul]; simp
          have e0 : 0 ≤ (j : Int) * ((4 ^ (d + 1) : Nat) : Int) := Int.mul_nonneg (by omega) (by omega)
          have en : (j + 1) * (1 + 4 ^ (d + 1)) = j * (1 + 4 ^ (d + 1)) + (1 + 4 ^ (d + 1)) := by rw [Nat.add_mul]; omega
          refine TQ.step (fun m => by rw [m_spec_l1Some_l1, ed]) ?_
          refine TQ.cond (fun hc => ?_) (fun hc => by exfalso; simp at hc; try omega)
          refine TQ.bind (ih _ K' hb (by omega) (by omega)) (fun v hv => ?_)
          refine TQ.chk (by simp; omega) ?_
          have ew : w64 (((j + 1 : Nat) : Int) - 1) = (j : Int) := by rw [w64_in (by omega)]; omega
          rw [ew]
          refine (ihj _ _ _ _ (by omega) hv.1.mk' (by omega) (by simp; omega) (Form.fits_app hfl (form_one hv.2.2))).mono (fun r hr => ⟨hr.1.mono (by omega), ?_, hr.2.2⟩)
          have := hr.2.1
          have hv2 := hv.2.1
          rw [Form.ws_append] at this
          simp only [Form.ws] at this
          omega
      obtain ⟨j, hj⟩ := Int.eq_ofNat_of_zero_le h2
      rw [hj]
      have hj3 : j ≤ 3 := by omega
      have hm : (j : Int) * ((4 ^ (d + 1) : Nat) : Int) ≤ 3 * ((4 ^ (d + 1) : Nat) : Int) := Int.mul_le_mul_of_nonneg_right (by omega) (by omega)
      have hm2 : j * (1 + 4 ^ (d + 1)) ≤ 3 * (1 + 4 ^ (d + 1)) := Nat.mul_le_mul_right _ hj3
      refine (key j _ _ [] (K + 1 + 1) hj3 h1.mk' (by omega) (by simp) trivial).mono (fun r hr => ⟨hr.1.mono (by omega), ?_, hr.2.2⟩)
      have := hr.2.1
      simp only [Form.ws] at this
      omega
theorem l6Copy_tr : ∀ (n : Nat) (f : Core), f.w ≤ n → f.w ≤ 2 ^ 36 → Tr (fun m => m_spec_l6Copy m f) f := by
  intro n
  induction n with
  | zero => intro f h _; have := f.w_kids; omega
  | succ n ih =>
    intro f h hb
    have hw := f.w_kids
    have hl := Core.ws_len f.kids
    refine Tr.step (fun m => by rw [m_spec_l6Copy]) ?_
    refine Tr.chk (by simp; omega) ?_
    refine Tr.bind (l1Copy_tr _ f.data (Nat.le_refl _) (by omega)) ?_
    have key := drop_ind f.kids (fun k ys => ∀ acc : List Core, acc.length = k → Tr (fun m => m_spec_l6Copy_l1 m f f.data (k : Int) acc) (Core.mk f.kind f.id f.name f.n f.ids f.data (acc ++ ys))) ?_ ?_ 0 (Nat.zero_le _) [] rfl
    · rw [List.drop_zero, List.nil_append] at key
      obtain ⟨a, b, c, d, e, g, h⟩ := f
      exact key
    · intro acc _
      refine Tr.step (fun m => by rw [m_spec_l6Copy_l1, ltN_self]) ?_
      rw [List.append_nil]; exact Tr.val
    · intro k x xs hk hx hd ihk acc hacc
      have hmem : x ∈ f.kids := List.mem_of_getElem? hx
      have hxw := Core.ws_mem hmem
      refine Tr.step (fun m => by rw [m_spec_l6Copy_l1, ltN hk, idx_nat hx, succN]) ?_
      refine Tr.bind (ih x (by omega) (by omega)) ?_
      refine Tr.chk (by simp; omega) ?_
      have := ihk (acc ++ [x]) (by simp; exact hacc)
      rwa [List.append_assoc] at this
def leafF (x4 : Int) (v7 : Int × l15Rd) (fuel : Nat) : Option (Core × Int × l15Rd) :=
  (bif (decide (v7.1 = 0)) then
 (m_spec_l1Some fuel v7.2 1).bind fun v9 =>
 some ((Core.mk 4 0 (⟨#[]⟩ : ByteArray) 0 ([] : List Int) v9.1 ([] : List Core)), x4, v9.2)
 else
 (bif (decide (v7.1 = 1)) then
 (m_spec_l15Rd_of fuel v7.2 [(⟨#[102]⟩ : ByteArray), (⟨#[43]⟩ : ByteArray), (⟨#[108, 105, 115, 116]⟩ : ByteArray)]).bind fun v11 =>
 some ((Core.mk 2 0 v11.1 0 ([] : List Int) (Form.mk 0 (⟨#[]⟩ : ByteArray) 0 ([] : List Int) ([] : List Form)) ([] : List Core)), x4, v11.2)
 else
 (m_spec_l15Rd_num fuel v7.2 [0, 1, 5, 42]).bind fun v12 =>
 some ((Core.mk 3 0 (⟨#[]⟩ : ByteArray) v12.1 ([] : List Int) (Form.mk 0 (⟨#[]⟩ : ByteArray) 0 ([] : List Int) ([] : List Form)) ([] : List Core)), x4, v12.2)))
theorem leafF_tq (x4 : Int) (v7 : Int × l15Rd) (K : Int) (h : OkRd v7.2 K) (hK : K + 16 ≤ 1000000000) : TQ (leafF x4 v7) (fun r => OkRd r.2.2 (K + 16) ∧ r.1.w ≤ 17 ∧ r.1.fit) := by
  unfold leafF
  refine TQ.cond (fun _ => ?_) (fun _ => TQ.cond (fun _ => ?_) (fun _ => ?_))
  · refine TQ.bind (l1Some_tq 1 _ K h (by decide) (by simpa using hK)) (fun v hv => TQ.val ⟨by simpa using hv.1, ?_, core_fit (by decide) (by simp) hv.2.2 (by simp) trivial⟩)
    have := hv.2.1
    simp only [Core.w, Core.ws, List.length_nil]
    omega
  · exact TQ.bind (of_tq _ _ _ h (by omega) (by decide)) (fun w hw => TQ.val ⟨hw.1.mono (by omega), by simp [Core.w, Core.ws, Form.w, Form.ws], core_fit (nm_fit (by decide) hw.2) (by simp) (leaf_fit (by decide)) (by simp) trivial⟩)
  · exact TQ.bind (num_tq _ _ _ h (by omega) (by decide)) (fun w hw => TQ.val ⟨hw.1.mono (by omega), by simp [Core.w, Core.ws, Form.w, Form.ws], core_fit (by decide) (by simp) (leaf_fit (by decide)) (by simp) trivial⟩)
def leafV (x2 : List Int) (x4 : Int) (o1 : l15Rd) (fuel : Nat) : Option (Core × Int × l15Rd) :=
  (bif (decide (0 < (x2.length : Int))) then
 (m_spec_l15Rd_pick fuel o1 3).bind fun v3 =>
 (bif (decide (0 < v3.1)) then
 (m_spec_l15Rd_pick fuel v3.2 (x2.length : Int)).bind fun v5 =>
 (idx x2 v5.1).bind fun v6 =>
 some ((Core.mk 1 v6 (⟨#[]⟩ : ByteArray) 0 ([] : List Int) (Form.mk 0 (⟨#[]⟩ : ByteArray) 0 ([] : List Int) ([] : List Form)) ([] : List Core)), x4, v5.2)
 else
 (m_spec_l15Rd_pick fuel v3.2 4).bind fun v7 => leafF x4 v7 fuel)
 else
 (m_spec_l15Rd_pick fuel o1 4).bind fun v13 => leafF x4 v13 fuel)
theorem leafV_tq (x2 : List Int) (x4 : Int) (o : l15Rd) (K : Int) (h : OkRd o K) (hK : K + 20 ≤ 1000000000) : TQ (leafV x2 x4 o) (fun r => OkRd r.2.2 (K + 20) ∧ r.1.w ≤ 17 ∧ r.1.fit) := by
  unfold leafV
  refine TQ.cond (fun hc => ?_) (fun _ => ?_)
  · refine TQ.bind (pick_tq _ 3 _ h (by omega)) (fun v hv => ?_)
    refine TQ.cond (fun _ => ?_) (fun _ => ?_)
    · refine TQ.bind (pick_tq _ _ _ hv.1 (by omega)) (fun w hw => ?_)
      obtain ⟨h1, _, h2, _⟩ := hw
      obtain ⟨h2, h3⟩ := h2 (by simpa using hc)
      exact TQ.idx h2 h3 (fun x hx => TQ.val ⟨h1.mono (by omega), by simp [Core.w, Core.ws, Form.w, Form.ws], core_fit (by decide) (by simp) (leaf_fit (by decide)) (by simp) trivial⟩)
    · refine TQ.bind (pick_tq _ 4 _ hv.1 (by omega)) (fun w hw => ?_)
      exact (leafF_tq x4 w _ hw.1 (by omega)).mono (fun r hr => ⟨hr.1.mono (by omega), hr.2⟩)
  · refine TQ.bind (pick_tq _ 4 _ h (by omega)) (fun w hw => ?_)
    exact (leafF_tq x4 w _ hw.1 (by omega)).mono (fun r hr => ⟨hr.1.mono (by omega), hr.2⟩)
theorem l6Some_tq : ∀ (d : Nat) (o : l15Rd) (ids : List Int) (next : Int) (K : Int), OkRd o K → d ≤ 10 → ids.length + 2 * d ≤ 1000 → K + ((24 * 4 ^ d : Nat) : Int) ≤ 1000000000 → TQ (fun m => m_spec_l6Some m o ids (d : Int) next) (fun r => OkRd r.2.2 (K + ((24 * 4 ^ d : Nat) : Int)) ∧ r.1.w ≤ 24 * 4 ^ d ∧ r.1.fit) := by
  intro d
  induction d with
  | zero =>
    intro o ids next K h hd hids hK
    refine TQ.step (fun m => by rw [m_spec_l6Some]) ?_
    refine TQ.cond (fun hc => ?_) (fun hc => by simp at hc)
    exact (leafV_tq ids next o K h (by simp at hK; omega)).mono (fun r hr => ⟨hr.1.mono (by simp), by simp; omega, hr.2.2⟩)
  | succ d ih =>
    intro o ids next K h hd hids hK
    have p1 := pow4 d
    have p2 := pow4s d
    refine TQ.step (fun m => by rw [m_spec_l6Some]) ?_
    refine TQ.cond (fun hc => by exfalso; simp at hc; omega) (fun hc => ?_)
    refine TQ.bind (pick_tq o 4 K h (by omega)) (fun v hv => ?_)
    refine TQ.cond (fun _ => ?_) (fun _ => ?_)
    · exact (leafV_tq ids next v.2 _ hv.1 (by omega)).mono (fun r hr => ⟨hr.1.mono (by omega), by omega, hr.2.2⟩)
    have ed : w64 (((d + 1 : Nat) : Int) - 1) = (d : Int) := by rw [w64_in (by omega)]; omega
    have B0 : (0 : Int) ≤ ((24 * 4 ^ d : Nat) : Int) := by omega
    have mulS : ∀ j : Nat, ((j + 1 : Nat) : Int) * ((24 * 4 ^ d : Nat) : Int) = (j : Int) * ((24 * 4 ^ d : Nat) : Int) + ((24 * 4 ^ d : Nat) : Int) := fun j => by rw [Int.natCast_add, Int.add_mul]; simp
    have mulS' : ∀ j : Nat, (j + 1) * (1 + 24 * 4 ^ d) = j * (1 + 24 * 4 ^ d) + (1 + 24 * 4 ^ d) := fun j => by rw [Nat.add_mul]; omega
    have mul0 : ∀ j : Nat, 0 ≤ (j : Int) * ((24 * 4 ^ d : Nat) : Int) := fun j => Int.mul_nonneg (by omega) B0
    have mulL : ∀ j : Nat, j ≤ 3 → (j : Int) * ((24 * 4 ^ d : Nat) : Int) ≤ 3 * ((24 * 4 ^ d : Nat) : Int) := fun j hj => Int.mul_le_mul_of_nonneg_right (by omega) B0
    have mulL' : ∀ j : Nat, j ≤ 3 → j * (1 + 24 * 4 ^ d) ≤ 3 * (1 + 24 * 4 ^ d) := fun j hj => Nat.mul_le_mul_right _ hj
    refine TQ.bind (num_tq _ _ _ hv.1 (by omega) (by decide)) (fun v38 hv38 => ?_)
    obtain ⟨h38, hm38⟩ := hv38
    have hk38 : v38.1 ≠ 2 := by
      simp at hm38
      omega
    refine TQ.cond (fun _ => ?_) (fun _ => TQ.cond (fun _ => ?_) (fun _ => ?_))
    · -- a function
      have two : ∀ (g41 g46 : List Int) (g53 : Int) (b : List Int) (p : Int) (K' : Int), OkRd ⟨b, p⟩ K' → K' + ((24 * 4 ^ d : Nat) : Int) ≤ 1000000000 → g41.length + 2 * d ≤ 1000 → g46.length ≤ 3 →
          TQ (fun m => m_spec_l6Some_l2 m ((d + 1 : Nat) : Int) v38 g41 g46 g53 0 b p []) (fun r => OkRd r.2.2 (K' + ((24 * 4 ^ d : Nat) : Int)) ∧ r.1.w ≤ 6 + 24 * 4 ^ d ∧ r.1.fit) := by
        intro g41 g46 g53 b p K' hb hK' hg41 hg46
        refine TQ.step (fun m => by rw [m_spec_l6Some_l2, ed]) ?_
        refine TQ.cond (fun hc => ?_) (fun hc => by exfalso; simp at hc)
        refine TQ.bind (ih _ g41 g53 K' hb (by omega) hg41 hK') (fun v hv => ?_)
        refine TQ.chk (by simp) ?_
        refine TQ.step (fun m => by rw [m_spec_l6Some_l2]) ?_
        refine TQ.cond (fun hc => by exfalso; rw [w64_in (by omega)] at hc; simp at hc) (fun hc => TQ.val ⟨hv.1.mk', ?_, core_fit (by decide) (by omega) (leaf_fit (by decide)) (by simp) ⟨hv.2.2, trivial⟩⟩)
        have := hv.2.1
        simp only [Core.w, Core.ws, Form.w, Form.ws, List.length_nil, List.nil_append]
        omega
      refine TQ.bind (num_tq _ _ _ h38 (by omega) (by decide)) (fun v40 hv40 => ?_)
      obtain ⟨h40, hm40⟩ := hv40
      have one : ∀ (j : Nat) (g41 : List Int) (g42 : Int) (b : List Int) (p : Int) (g46 : List Int) (K' : Int), j ≤ 2 → OkRd ⟨b, p⟩ K' → K' + j + ((24 * 4 ^ d : Nat) : Int) ≤ 1000000000 → g41.length + j + 2 * d ≤ 1000 → g46.length + j ≤ 3 →
          TQ (fun m => m_spec_l6Some_l1 m ((d + 1 : Nat) : Int) v38 g41 g42 (j : Int) b p g46) (fun r => OkRd r.2.2 (K' + j + ((24 * 4 ^ d : Nat) : Int)) ∧ r.1.w ≤ 6 + 24 * 4 ^ d ∧ r.1.fit) := by
        intro j
        induction j with
        | zero =>
          intro g41 g42 b p g46 K' hj hb hK' h41 h46
          refine TQ.step (fun m => by rw [m_spec_l6Some_l1]) ?_
          refine TQ.cond (fun hc => by exfalso; simp at hc) (fun hc => ?_)
          exact (two g41 g46 g42 b p K' hb (by omega) (by omega) (by omega)).mono (fun r hr => ⟨hr.1.mono (by omega), hr.2⟩)
        | succ j ihj =>
          intro g41 g42 b p g46 K' hj hb hK' h41 h46
          refine TQ.step (fun m => by rw [m_spec_l6Some_l1]) ?_
          refine TQ.cond (fun hc => ?_) (fun hc => by exfalso; simp at hc; try omega)
          refine TQ.bind (num_tq _ _ _ hb (by omega) (by decide)) (fun v hv => ?_)
          refine TQ.chk (by simp; omega) (TQ.chk (by simp; omega) (TQ.chk (by simp; omega) ?_))
          have ew : w64 (((j + 1 : Nat) : Int) - 1) = (j : Int) := by rw [w64_in (by omega)]; omega
          rw [ew]
          exact (ihj _ _ _ _ _ _ (by omega) hv.1.mk' (by omega) (by simp; omega) (by simp; omega)).mono (fun r hr => ⟨hr.1.mono (by omega), hr.2⟩)
      have hj : v40.1 = ((1 : Nat) : Int) ∨ v40.1 = ((2 : Nat) : Int) ∨ v40.1 = ((0 : Nat) : Int) := by simpa using hm40
      rcases hj with e | e | e <;> rw [e]
      · exact (one 1 ids next _ _ [] _ (by omega) h40.mk' (by omega) (by omega) (by simp)).mono (fun r hr => ⟨hr.1.mono (by omega), by omega, hr.2.2⟩)
      · exact (one 2 ids next _ _ [] _ (by omega) h40.mk' (by omega) (by omega) (by simp)).mono (fun r hr => ⟨hr.1.mono (by omega), by omega, hr.2.2⟩)
      · exact (one 0 ids next _ _ [] _ (by omega) h40.mk' (by omega) (by omega) (by simp)).mono (fun r hr => ⟨hr.1.mono (by omega), by omega, hr.2.2⟩)
    · -- a call
      refine TQ.bind (num_tq _ _ _ h38 (by omega) (by decide)) (fun v63 hv63 => ?_)
      obtain ⟨h63, hm63⟩ := hv63
      have three : ∀ (N j : Nat) (g64 : Int) (b : List Int) (p : Int) (g68 : List Core) (K' : Int), v63.1 = ((N : Nat) : Int) → N ≤ 3 → j ≤ N → OkRd ⟨b, p⟩ K' → K' + (j : Int) * ((24 * 4 ^ d : Nat) : Int) ≤ 1000000000 → g68.length ≤ 3 - j → Core.fits g68 →
          TQ (fun m => m_spec_l6Some_l3 m ids ((d + 1 : Nat) : Int) v38 v63 g64 (((N - j : Nat)) : Int) b p g68) (fun r => OkRd r.2.2 (K' + (j : Int) * ((24 * 4 ^ d : Nat) : Int)) ∧ r.1.w ≤ 2 + Core.ws g68 + j * (1 + 24 * 4 ^ d) ∧ r.1.fit) := by
        intro N j
        induction j with
        | zero =>
          intro g64 b p g68 K' hN hN3 hj hb hK' hl hfl
          refine TQ.step (fun m => by rw [m_spec_l6Some_l3]) ?_
          refine TQ.cond (fun hc => by exfalso; rw [hN] at hc; simp at hc) (fun hc => TQ.val ⟨hb.mono (by simp), ?_, core_fit (by decide) (by simp) (leaf_fit (by decide)) (by omega) hfl⟩)
          simp only [Core.w, Form.w, Form.ws, List.length_nil]; omega
        | succ j ihj =>
          intro g64 b p g68 K' hN hN3 hj hb hK' hl hfl
          have m1 := mulS j
          have m2 := mulS' j
          have m3 := mul0 j
          refine TQ.step (fun m => by rw [m_spec_l6Some_l3, ed]) ?_
          refine TQ.cond (fun hc => ?_) (fun hc => by exfalso; rw [hN] at hc; simp at hc; omega)
          refine TQ.bind (ih _ ids g64 K' hb (by omega) (by omega) (by omega)) (fun v hv => ?_)
          refine TQ.chk (by simp; omega) ?_
          have ew : w64 (((N - (j + 1) : Nat) : Int) + 1) = ((N - j : Nat) : Int) := by rw [w64_in (by omega)]; omega
          rw [ew]
          refine (ihj _ _ _ _ _ hN hN3 (by omega) hv.1.mk' (by omega) (by simp; omega) (Core.fits_app hfl (core_one hv.2.2))).mono (fun r hr => ⟨hr.1.mono (by omega), ?_, hr.2.2⟩)
          have := hr.2.1
          rw [Core.ws_append] at this
          simp only [Core.ws] at this
          have hv2 := hv.2.1
          omega
      have hj : v63.1 = ((2 : Nat) : Int) ∨ v63.1 = ((1 : Nat) : Int) ∨ v63.1 = ((3 : Nat) : Int) := by simpa using hm63
      have fin : ∀ N : Nat, v63.1 = (N : Int) → N ≤ 3 → TQ (fun m => m_spec_l6Some_l3 m ids ((d + 1 : Nat) : Int) v38 v63 next 0 v63.2.b v63.2.p []) (fun r => OkRd r.2.2 (K + ((24 * 4 ^ (d + 1) : Nat) : Int)) ∧ r.1.w ≤ 24 * 4 ^ (d + 1) ∧ r.1.fit) := by
        intro N hN hN3
        have m1 := mulL N hN3
        have m2 := mulL' N hN3
        have := three N N next v63.2.b v63.2.p [] _ hN hN3 (Nat.le_refl _) h63.mk' (by omega) (by simp) trivial
        rw [Nat.sub_self] at this
        refine this.mono (fun r hr => ⟨hr.1.mono (by omega), ?_, hr.2.2⟩)
        have := hr.2.1
        simp only [Core.ws] at this
        omega
      rcases hj with e | e | e
      · exact fin 2 e (by omega)
      · exact fin 1 e (by omega)
      · exact fin 3 e (by omega)
    · -- a choice
      have four : ∀ (j : Nat) (g73 : Int) (b : List Int) (p : Int) (g77 : List Core) (K' : Int), j ≤ 3 → OkRd ⟨b, p⟩ K' → K' + (j : Int) * ((24 * 4 ^ d : Nat) : Int) ≤ 1000000000 → g77.length ≤ 3 - j → Core.fits g77 →
          TQ (fun m => m_spec_l6Some_l4 m ids ((d + 1 : Nat) : Int) v38 g73 (((3 - j : Nat)) : Int) b p g77) (fun r => OkRd r.2.2 (K' + (j : Int) * ((24 * 4 ^ d : Nat) : Int)) ∧ r.1.w ≤ 2 + Core.ws g77 + j * (1 + 24 * 4 ^ d) ∧ r.1.fit) := by
        intro j
        induction j with
        | zero =>
          intro g73 b p g77 K' hj hb hK' hl hfl
          refine TQ.step (fun m => by rw [m_spec_l6Some_l4]) ?_
          refine TQ.cond (fun hc => by exfalso; simp at hc) (fun hc => TQ.val ⟨hb.mono (by simp), ?_, core_fit (by decide) (by simp) (leaf_fit (by decide)) (by omega) hfl⟩)
          simp only [Core.w, Form.w, Form.ws, List.length_nil]; omega
        | succ j ihj =>
          intro g73 b p g77 K' hj hb hK' hl hfl
          have m1 := mulS j
          have m2 := mulS' j
          have m3 := mul0 j
          refine TQ.step (fun m => by rw [m_spec_l6Some_l4, ed]) ?_
          refine TQ.cond (fun hc => ?_) (fun hc => by exfalso; simp at hc; try omega)
          refine TQ.bind (ih _ ids g73 K' hb (by omega) (by omega) (by omega)) (fun v hv => ?_)
          refine TQ.chk (by simp; omega) ?_
          have ew : w64 (((3 - (j + 1) : Nat) : Int) + 1) = ((3 - j : Nat) : Int) := by rw [w64_in (by omega)]; omega
          rw [ew]
          refine (ihj _ _ _ _ _ (by omega) hv.1.mk' (by omega) (by simp; omega) (Core.fits_app hfl (core_one hv.2.2))).mono (fun r hr => ⟨hr.1.mono (by omega), ?_, hr.2.2⟩)
          have := hr.2.1
          rw [Core.ws_append] at this
          simp only [Core.ws] at this
          have hv2 := hv.2.1
          omega
      have m1 := mulL 3 (by omega)
      have m2 := mulL' 3 (by omega)
      refine (four 3 next v38.2.b v38.2.p [] _ (by omega) h38.mk' (by omega) (by simp) trivial).mono (fun r hr => ⟨hr.1.mono (by omega), ?_, hr.2.2⟩)
      have := hr.2.1
      simp only [Core.ws] at this
      omega
theorem Core.ws_set : ∀ (l : List Core) (i : Nat) (x : Core) (B : Nat), (∀ y, l[i]? = some y → x.w ≤ y.w + B) → Core.ws (l.set i x) ≤ Core.ws l + B
  | [], i, x, B, _ => by simp [Core.ws]
  | y :: l, 0, x, B, h => by
    have := h y rfl
    rw [List.set_cons_zero, Core.ws, Core.ws]; omega
  | y :: l, i + 1, x, B, h => by
    have := Core.ws_set l i x B (fun z hz => h z (by simpa using hz))
    rw [List.set_cons_succ, Core.ws, Core.ws]; omega
def mutL (v1 : Core) (o1 : l15Rd) (fuel : Nat) : Option (Core × l15Rd) :=
 (m_spec_l15Rd_pick fuel o1 12).bind fun v9 =>
 (bif (decide (v9.1 = 0)) then
 (m_spec_l15Rd_num fuel v9.2 [0, 8, 3, 6]).bind fun v11 =>
 some ((Core.mk v11.1 v1.id v1.name v1.n v1.ids v1.data v1.kids), v11.2)
 else
 (bif (decide (v9.1 = 1)) then
 (m_spec_l15Rd_num fuel v9.2 [0, 1, 1000, 2]).bind fun v13 =>
 some ((Core.mk v1.kind v13.1 v1.name v1.n v1.ids v1.data v1.kids), v13.2)
 else
 (bif (decide (v9.1 = 2)) then
 (m_spec_l15Rd_num fuel v9.2 [1, 900, 0]).bind fun v15 =>
 chk (decide ((v1.ids.length + [v15.1].length) * 8 ≤ 140737488355328)) <|
 some ((Core.mk v1.kind v1.id v1.name v1.n (v1.ids ++ [v15.1]) v1.data v1.kids), v15.2)
 else
 (bif (decide (v9.1 = 3)) then
 (m_spec_l15Rd_of fuel v9.2 [(⟨#[]⟩ : ByteArray), (⟨#[103]⟩ : ByteArray), (⟨#[65]⟩ : ByteArray)]).bind fun v18 =>
 some ((Core.mk v1.kind v1.id v18.1 v1.n v1.ids v1.data v1.kids), v18.2)
 else
 some (v1, v9.2)))))
theorem mutL_tq (v1 : Core) (o : l15Rd) (K : Int) (h : OkRd o K) (hK : K + 2 ≤ 1000000000) (hw : v1.w ≤ 2 ^ 36) : TQ (mutL v1 o) (fun r => OkRd r.2 (K + 2) ∧ r.1.w ≤ v1.w + 1 ∧ (v1.fit → r.1.fit)) := by
  have hk := v1.w_kids
  unfold mutL
  refine TQ.bind (pick_tq o 12 _ h (by omega)) (fun v hv => ?_)
  refine TQ.cond (fun _ => ?_) (fun _ => TQ.cond (fun _ => ?_) (fun _ => TQ.cond (fun _ => ?_) (fun _ => TQ.cond (fun _ => ?_) (fun _ => ?_))))
  · exact TQ.bind (num_tq _ _ _ hv.1 (by omega) (by decide)) (fun w hw => TQ.val ⟨hw.1.mono (by omega), by simp only [Core.w]; omega, fun hL => by obtain ⟨f1, f2, f3, f4, f5⟩ := hL.parts; exact core_fit f1 f2 f3 f4 f5⟩)
  · exact TQ.bind (num_tq _ _ _ hv.1 (by omega) (by decide)) (fun w hw => TQ.val ⟨hw.1.mono (by omega), by simp only [Core.w]; omega, fun hL => by obtain ⟨f1, f2, f3, f4, f5⟩ := hL.parts; exact core_fit f1 f2 f3 f4 f5⟩)
  · exact TQ.bind (num_tq _ _ _ hv.1 (by omega) (by decide)) (fun w hw => TQ.chk (by simp; omega) (TQ.val ⟨hw.1.mono (by omega), by simp only [Core.w, List.length_append, List.length_cons, List.length_nil]; omega, fun hL => by obtain ⟨f1, f2, f3, f4, f5⟩ := hL.parts; exact core_fit f1 (by simp; omega) f3 f4 f5⟩))
  · exact TQ.bind (of_tq _ _ _ hv.1 (by omega) (by decide)) (fun w hw => TQ.val ⟨hw.1.mono (by omega), by simp only [Core.w]; omega, fun hL => by obtain ⟨f1, f2, f3, f4, f5⟩ := hL.parts; exact core_fit (nm_fit (by decide) hw.2) f2 f3 f4 f5⟩)
  · exact TQ.val ⟨hv.1.mono (by omega), Nat.le_succ _, fun hL => hL⟩
theorem l6Mutate_tq : ∀ (n : Nat) (c : Core) (o : l15Rd) (K : Int), c.w ≤ n → OkRd o K → c.w ≤ 2 ^ 30 → K + 3 * c.w ≤ 100000000000 → K + 3 * c.w ≤ 1000000000 → TQ (fun m => m_spec_l6Mutate m o c) (fun r => OkRd r.2 (K + 3 * c.w) ∧ r.1.w ≤ c.w + 1 ∧ (c.fit → r.1.fit)) := by
  intro n
  induction n with
  | zero => intro c o K h; have := c.w_kids; omega
  | succ n ih =>
    intro c o K h ho hb hK hK2
    have hw := c.w_kids
    refine TQ.step (fun m => by rw [m_spec_l6Mutate]) ?_
    refine TQ.ev (l6Copy_tr _ c (Nat.le_refl _) (by omega)) ?_
    refine TQ.cond (fun hc => ?_) (fun _ => ?_)
    · have hpos : 0 < c.kids.length := by simpa using hc
      have hl := Core.ws_len c.kids
      refine TQ.bind (pick_tq o 2 _ ho (by omega)) (fun v hv => ?_)
      refine TQ.cond (fun _ => ?_) (fun _ => ?_)
      · refine TQ.bind (pick_tq _ _ _ hv.1 (by omega)) (fun w hw2 => ?_)
        obtain ⟨h1, _, h2, _⟩ := hw2
        obtain ⟨h2, h3⟩ := h2 (by omega)
        obtain ⟨x, hx, hm⟩ := idx_int h2 h3
        have hxw := Core.ws_mem hm
        have hx2 := (idx_some hx).2.2
        obtain ⟨r, hr, q1, q2, q3⟩ := ih x w.2 _ (by omega) h1 (by omega) (by omega) (by omega)
        refine ⟨_, Tr.idx hx (Tr.bind hr (Tr.idx hx Tr.val)), q1.mono (by omega), ?_, fun hL => by obtain ⟨f1, f2, f3, f4, f5⟩ := hL.parts; exact core_fit f1 f2 f3 (by rw [List.length_set]; exact f4) (Core.fits_set _ _ _ f5 (q3 (Core.fits_mem f5 hm)))⟩
        have := Core.ws_set c.kids w.1.toNat r.1 1 (fun y hy => by rw [hx2] at hy; cases hy; exact q2)
        simp only [Core.w]; omega
      · exact (mutL_tq c _ _ hv.1 (by omega) (by omega)).mono (fun r hr => ⟨hr.1.mono (by omega), hr.2⟩)
    · exact (mutL_tq c _ _ ho (by omega) (by omega)).mono (fun r hr => ⟨hr.1.mono (by omega), hr.2⟩)
theorem l6Draw_tq (code : List Int) (h : ∀ x ∈ code, 0 ≤ x ∧ x < 256) : TQ (fun m => m_spec_l6Draw m code) (fun c => c.w ≤ 2 ^ 20 ∧ c.fit) := by
  refine TQ.eq (fun m => by unfold m_spec_l6Draw; rfl) ?_
  refine TQ.bind (open_tq code h) (fun o ho => ?_)
  refine TQ.bind (num_tq _ _ _ ho (by omega) (by decide)) (fun v hv => ?_)
  obtain ⟨h1, hm⟩ := hv
  have hd : ∃ d : Nat, v.1 = (d : Int) ∧ d ≤ 4 := by
    have : v.1 = 3 ∨ v.1 = 4 ∨ v.1 = 2 := by simpa using hm
    rcases this with e | e | e
    · exact ⟨3, e, by omega⟩
    · exact ⟨4, e, by omega⟩
    · exact ⟨2, e, by omega⟩
  obtain ⟨d, hd, hd4⟩ := hd
  rw [hd]
  have hp : 4 ^ d ≤ 4 ^ 4 := Nat.pow_le_pow_right (by decide) hd4
  have e4 : (4 : Nat) ^ 4 = 256 := rfl
  refine TQ.bind (l6Some_tq d v.2 [] 0 _ h1 (by omega) (by simp; omega) (by omega)) (fun w hw => ?_)
  obtain ⟨h2, hw, hL⟩ := hw
  refine TQ.bind (pick_tq _ 8 _ h2 (by omega)) (fun u hu => ?_)
  refine TQ.cond (fun _ => ?_) (fun _ => TQ.val ⟨by omega, hL⟩)
  refine TQ.bind (l6Mutate_tq _ w.1 u.2 _ (Nat.le_refl _) hu.1 (by omega) (by omega) (by omega)) (fun y hy => ?_)
  refine TQ.bind (l6Mutate_tq _ y.1 y.2 _ (Nat.le_refl _) hy.1 (by omega) (by omega) (by omega)) (fun z hz => ?_)
  exact TQ.val ⟨by omega, hz.2.2 (hy.2.2 hL)⟩
theorem okF_ids {c : Core} {ar : List Int} (h : c.okF ar = true) (hk : c.kind ≠ 5) : c.ids = [] := by
  rw [okF_eq, Bool.and_eq_true, Bool.and_eq_true] at h
  have h1 := h.2.1
  unfold Core.fl Core.fl1 Core.fl2 Core.fl3 at h1
  simp only [Bool.and_eq_true] at h1
  have h2 := h1.2.2.2.2
  unfold Core.fl4 at h2
  rw [decide_eq_false hk, cond_false] at h2
  have := of_decide_eq_true h2
  exact List.eq_nil_of_length_eq_zero (by omega)
end Go.Abs
end
section
set_option linter.unusedVariables false
set_option linter.unusedSimpArgs false
set_option maxHeartbeats 4000000
namespace Go.Abs
def findI (l : List Int) (x : Int) : Int := match l.reverse.findIdx? (fun y => decide (y = x)) with | some i => (i : Int) | none => -1
theorem findI_at {l : List Int} {x : Int} {i : Nat} (h : l.reverse.findIdx? (fun y => decide (y = x)) = some i) : findI l x = i := by unfold findI; rw [h]
theorem find_at : ∀ (q : List Int) (i : Nat) (x : Int), q.Nodup → q[i]? = some x → q.findIdx? (fun y => decide (y = x)) = some i
  | y :: q, 0, x, hn, h => by
    have : y = x := by simpa using h
    rw [List.findIdx?_cons, if_pos (decide_eq_true this)]
  | y :: q, i + 1, x, hn, h => by
    have h' : q[i]? = some x := by simpa using h
    have hy : y ≠ x := fun e => (List.nodup_cons.1 hn).1 (e ▸ List.mem_of_getElem? h')
    rw [List.findIdx?_cons, if_neg (by simpa using hy), find_at q i x (List.nodup_cons.1 hn).2 h']
    rfl
theorem findI_nodup {l : List Int} (hn : l.Nodup) {i : Nat} {x : Int} (h : l[i]? = some x) : findI l x = ((l.length - 1 - i : Nat) : Int) := by
  have hi := (List.getElem?_eq_some_iff.1 h).1
  refine findI_at (find_at l.reverse _ x (List.pairwise_reverse.2 (List.Pairwise.imp (fun h => Ne.symm h) hn)) ?_)
  rw [List.getElem?_reverse (by omega), show l.length - 1 - (l.length - 1 - i) = i by omega]
  exact h
theorem l6Last_tr (l : List Int) (x : Int) (hl : l.length ≤ 2 ^ 40) : Tr (fun m => m_spec_l6Last m l x) (findI l x) := by
  refine Tr.eq (fun m => by unfold m_spec_l6Last; rw [w64_in (by omega)]) ?_
  have key : ∀ j, j ≤ l.length → Tr (fun m => m_spec_l6Last_l1 m l x ((j : Int) - 1)) (match (l.take j).reverse.findIdx? (fun y => decide (y = x)) with | some i => ((l.length - j + i : Nat) : Int) | none => -1) := by
    intro j
    induction j with
    | zero =>
      intro _
      refine Tr.step (fun m => by rw [m_spec_l6Last_l1, decide_eq_false (show ¬ (0 : Int) ≤ ((0 : Nat) : Int) - 1 by omega), cond_false]) ?_
      rw [List.take_zero]; exact Tr.val
    | succ j ih =>
      intro hj
      obtain ⟨y, hy⟩ : ∃ y, l[j]? = some y := ⟨l[j], List.getElem?_eq_getElem (by omega)⟩
      have e : ((j + 1 : Nat) : Int) - 1 = (j : Int) := by omega
      rw [e, List.take_add_one, hy, Option.toList_some, List.reverse_append, List.reverse_singleton, List.singleton_append, List.findIdx?_cons]
      refine Tr.step (fun m => by rw [m_spec_l6Last_l1]) (Tr.tt (decide_eq_true (by omega)) (Tr.idx (idx_nat hy) ?_))
      by_cases hyx : y = x
      · refine Tr.tt (decide_eq_true hyx) ?_
        rw [if_pos (decide_eq_true hyx), w64_in (n := (l.length : Int) - 1) (by omega), w64_in (by omega)]
        exact Tr.of (fun m => by congr 1; simp only []; omega)
      · refine Tr.ff (decide_eq_false hyx) ?_
        rw [if_neg (by simpa using hyx), w64_in (by omega)]
        have := ih (by omega)
        cases hf : (l.take j).reverse.findIdx? (fun y => decide (y = x)) with
        | none => rw [hf] at this; exact this
        | some i =>
          rw [hf] at this
          simp only [Option.map_some] at this ⊢
          rw [show l.length - (j + 1) + (i + 1) = l.length - j + i by omega]; exact this
  have := key l.length (Nat.le_refl _)
  rw [List.take_length] at this
  unfold findI
  cases hf : l.reverse.findIdx? (fun y => decide (y = x)) with
  | none => rw [hf] at this; exact this
  | some i =>
    rw [hf] at this
    simp only [] at this ⊢
    rwa [show l.length - l.length + i = i by omega] at this
mutual
noncomputable def Core.alk : Core → Core → List Int → List Int → Bool
  | .mk k i nm n ids data kids, b, l, r => decide (k = b.kind) && (decide (nm = b.name) && (decide (n = b.n) && (decide (ids.length = b.ids.length) && (same data b.data && (decide (kids.length = b.kids.length) && ((bif decide (k = 1) then decide (findI l i = findI r b.id) else true) && Core.alks kids b.kids (l ++ ids) (r ++ b.ids)))))))
noncomputable def Core.alks : List Core → List Core → List Int → List Int → Bool
  | [], _, _, _ => true
  | x :: xs, ys, l, r => match ys with
    | [] => false
    | y :: ys => x.alk y l r && Core.alks xs ys l r
end
theorem Core.alk_eq (a b : Core) (l r : List Int) : a.alk b l r = (decide (a.kind = b.kind) && (decide (a.name = b.name) && (decide (a.n = b.n) && (decide (a.ids.length = b.ids.length) && (same a.data b.data && (decide (a.kids.length = b.kids.length) && ((bif decide (a.kind = 1) then decide (findI l a.id = findI r b.id) else true) && Core.alks a.kids b.kids (l ++ a.ids) (r ++ b.ids)))))))) := by
  obtain ⟨a1, a2, a3, a4, a5, a6, a7⟩ := a; rw [Core.alk]; rfl
theorem drop_one {α : Type} {l : List α} {k : Nat} {x : α} (h : l[k]? = some x) : l.drop k = x :: l.drop (k + 1) := by
  obtain ⟨h1, h2⟩ := List.getElem?_eq_some_iff.1 h
  rw [List.drop_eq_getElem_cons h1, h2]
theorem loop_alk {xs ys : List Core} (hl : xs.length = ys.length) {l r : List Int} {L : Nat → Int → Option Bool} {E : Nat → Core → Core → Option Bool}
    (h0 : ∀ m k, L (m + 1) k = bif decide (k < (xs.length : Int)) then (idx xs k).bind fun a => (idx ys k).bind fun b => (E m a b).bind fun v => bif !v then some false else L m (k + 1) else some true)
    (hE : ∀ a ∈ xs, ∀ b ∈ ys, Tr (fun m => E m a b) (a.alk b l r)) : Tr (fun m => L m 0) (Core.alks xs ys l r) := by
  have key := drop_ind xs (fun k zs => Tr (fun m => L m (k : Int)) (Core.alks zs (ys.drop k) l r)) ?_ ?_ 0 (Nat.zero_le _)
  · simpa using key
  · refine Tr.step (fun m => by rw [h0, ltN_self, cond_false]) ?_
    rw [Core.alks]; exact Tr.val
  · intro k x zs hk hx hd ih
    obtain ⟨y, hy⟩ : ∃ y, ys[k]? = some y := ⟨ys[k]'(by omega), List.getElem?_eq_getElem _⟩
    rw [drop_one hy, Core.alks]
    refine Tr.step (fun m => by rw [h0, ltN hk, cond_true, idx_nat hx, Option.bind_some, idx_nat hy, Option.bind_some, succN]) ?_
    refine Tr.bind (hE x (List.mem_of_getElem? hx) y (List.mem_of_getElem? hy)) ?_
    cases x.alk y l r with
    | false => exact Tr.tt rfl Tr.val
    | true => exact Tr.ff rfl ih
structure AInv (m : Int → Option Int) (l r : List Int) : Prop where
  len : l.length = r.length
  nl : l.Nodup
  nr : r.Nodup
  at_ : ∀ (i : Nat) (x : Int), l[i]? = some x → m x = r[i]?
theorem AInv.nil : AInv map0 [] [] := ⟨rfl, List.nodup_nil, List.nodup_nil, fun i x h => by simp at h⟩
theorem AInv.get {m : Int → Option Int} {l r : List Int} (h : AInv m l r) {x : Int} (hx : x ∈ l) : ∃ (i : Nat) (y : Int), l[i]? = some x ∧ r[i]? = some y ∧ mapGet m x = y := by
  obtain ⟨i, hi⟩ := List.mem_iff_getElem?.1 hx
  have hl := (List.getElem?_eq_some_iff.1 hi).1
  have hr : r[i]? = some (r[i]'(by have := h.len; omega)) := List.getElem?_eq_getElem _
  refine ⟨i, _, hi, hr, ?_⟩
  unfold mapGet; rw [h.at_ i x hi, hr]; rfl
theorem AInv.var {m : Int → Option Int} {l r : List Int} (h : AInv m l r) {x y : Int} (hx : x ∈ l) (hy : y ∈ r) : decide (mapGet m x = y) = decide (findI l x = findI r y) := by
  obtain ⟨i, z, hi, hz, hm⟩ := h.get hx
  obtain ⟨j, hj⟩ := List.mem_iff_getElem?.1 hy
  have h1 := (List.getElem?_eq_some_iff.1 hi).1
  have h2 := (List.getElem?_eq_some_iff.1 hj).1
  have h3 := h.len
  rw [hm, findI_nodup h.nl hi, findI_nodup h.nr hj, Bool.eq_iff_iff, decide_eq_true_iff, decide_eq_true_iff]
  constructor
  · intro e
    have : i = j := by
      rw [e] at hz
      have := find_at r i y h.nr hz
      rw [find_at r j y h.nr hj] at this
      exact (Option.some.inj this).symm
    omega
  · intro e
    have : i = j := by omega
    subst this
    rw [hj] at hz; exact (Option.some.inj hz).symm
theorem AInv.add {m : Int → Option Int} {l r : List Int} (h : AInv m l r) {x y : Int} (hx : (l ++ [x]).Nodup) (hy : (r ++ [y]).Nodup) : AInv (mapSet m x y) (l ++ [x]) (r ++ [y]) := by
  refine ⟨by simp [h.len], hx, hy, fun i z hz => ?_⟩
  unfold mapSet
  have hlen := h.len
  by_cases hi : i < l.length
  · rw [List.getElem?_append_left hi] at hz
    rw [List.getElem?_append_left (by omega)]
    have : z ≠ x := fun e => by
      have h1 := (List.nodup_append.1 hx).2.2 z (List.mem_of_getElem? hz) x (by simp)
      exact h1 e
    rw [if_neg this]; exact h.at_ i z hz
  · rw [List.getElem?_append_right (by omega)] at hz
    rw [List.getElem?_append_right (by omega)]
    have h0 : i - l.length = 0 := by
      rcases Nat.eq_zero_or_pos (i - l.length) with h | h
      · exact h
      · rw [List.getElem?_eq_none (by simp; omega)] at hz; cases hz
    rw [h0] at hz
    have e : z = x := by simpa using hz.symm
    rw [if_pos e, show i - r.length = 0 by omega]; rfl
theorem hasB_iff {l : List Int} {x : Int} : hasB l x = true ↔ x ∈ l := by
  unfold hasB
  induction l with
  | nil => simp [anys]
  | cons y l ih => rw [anys, Bool.or_eq_true, ih, decide_eq_true_iff, List.mem_cons]; exact ⟨fun h => h.imp Eq.symm id, fun h => h.imp Eq.symm id⟩
theorem idsOk_nodup : ∀ (xs ar : List Int), ar.Nodup → idsOk ar xs = true → (ar ++ xs).Nodup
  | [], ar, h, _ => by simpa using h
  | x :: xs, ar, h, hk => by
    simp only [idsOk, Bool.and_eq_true, Bool.not_eq_true'] at hk
    have hx : x ∉ ar := fun hm => by rw [hasB_iff.2 hm] at hk; cases hk.2.1
    have : (ar ++ [x]).Nodup := List.nodup_append.2 ⟨h, by simp, fun a ha b hb e => hx (by simp only [List.mem_singleton] at hb; subst hb; subst e; exact ha)⟩
    have := idsOk_nodup xs (ar ++ [x]) this hk.2.2
    simpa using this
theorem okF_var {c : Core} {ar : List Int} (h : c.okF ar = true) (k : c.kind = 1) : c.id ∈ ar ∧ c.name = e0 ∧ c.n = 0 ∧ c.ids = [] ∧ c.data = form0 ∧ c.kids = [] := by
  rw [Core.okF, decide_eq_true k, cond_true] at h
  simp only [Bool.and_eq_true, decide_eq_true_eq, same_iff, lenI] at h
  obtain ⟨_, h1, h2, h3, h4, h5, h6⟩ := h
  exact ⟨hasB_iff.1 h1, h2, h3, h4, h5, List.eq_nil_of_length_eq_zero (by omega)⟩
theorem okF_fn {c : Core} {ar : List Int} (h : c.okF ar = true) (k : c.kind = 5) : idsOk ar c.ids = true ∧ c.name = e0 ∧ c.n = 0 ∧ c.data = form0 ∧ c.kids.length = 1 ∧ c.id = 0 := by
  unfold Core.okF at h
  simp only [k, Int.reduceEq, decide_true, decide_false, cond_true, cond_false, Bool.and_eq_true, decide_eq_true_eq, same_iff, lenI] at h
  obtain ⟨h1, h0, h2, h3, h4, h5⟩ := h
  exact ⟨h1, h2, h3, h4, by omega, h0⟩
theorem okF_id0 {c : Core} {ar : List Int} (h : c.okF ar = true) (k : c.kind ≠ 1) : c.id = 0 := by
  rw [Core.okF, decide_eq_false k, cond_false] at h
  by_cases k2 : c.kind = 2
  · simp only [k2, Int.reduceEq, decide_true, decide_false, cond_true, cond_false, Bool.and_eq_true, decide_eq_true_eq] at h; exact h.2.1
  by_cases k3 : c.kind = 3
  · simp only [k3, Int.reduceEq, decide_true, decide_false, cond_true, cond_false, Bool.and_eq_true, decide_eq_true_eq] at h; exact h.2.1
  by_cases k4 : c.kind = 4
  · simp only [k4, Int.reduceEq, decide_true, decide_false, cond_true, cond_false, Bool.and_eq_true, decide_eq_true_eq] at h; exact h.2.1
  by_cases k5 : c.kind = 5
  · simp only [k5, Int.reduceEq, decide_true, decide_false, cond_true, cond_false, Bool.and_eq_true, decide_eq_true_eq] at h; exact h.2.1
  by_cases k6 : c.kind = 6
  · simp only [k6, Int.reduceEq, decide_true, decide_false, cond_true, cond_false, Bool.and_eq_true, decide_eq_true_eq] at h; exact h.1
  by_cases k7 : c.kind = 7
  · simp only [k7, Int.reduceEq, decide_true, decide_false, cond_true, cond_false, Bool.and_eq_true, decide_eq_true_eq] at h; exact h.1
  simp only [k2, k3, k4, k5, k6, k7, decide_false, cond_false] at h; cases h
theorem isOk_parts {c : Core} {ar : List Int} {d : Nat} (h : c.isOk ar d = true) : c.okF ar = true ∧ ∀ x ∈ c.kids, x.isOk (ar ++ c.ids) (d - 1) = true := by
  rw [Core.isOk_eq] at h
  by_cases hd : d = 0
  · rw [decide_eq_true hd] at h; cases h
  rw [decide_eq_false hd, cond_false, Bool.and_eq_true] at h
  exact ⟨h.1, alls_iff.1 h.2⟩
theorem alks_nil {l r : List Int} : Core.alks [] [] l r = true := by rw [Core.alks]
theorem alks_one {x y : Core} {l r : List Int} : Core.alks [x] [y] l r = x.alk y l r := by rw [Core.alks]; simp only [Core.alks, Bool.and_true]
theorem implAlike_n : ∀ (n : Nat) (a b : Core) (l r : List Int) (d e : Nat), a.w ≤ n → a.isOk l d = true → b.isOk r e = true →
    (∀ mp, AInv mp l r → Tr (fun m => m_impl_alike m a b mp) (a.alk b l r)) ∧ (l = [] → r = [] → Tr (fun m => m_impl_alike_n m a b) (a.alk b l r)) := by
  intro n
  induction n with
  | zero => intro a b l r d e h; have := a.w_pos; omega
  | succ n ih =>
    intro a b l r d e h ha hb
    have hw := a.w_kids
    obtain ⟨fa, ka⟩ := isOk_parts ha
    obtain ⟨fb, kb⟩ := isOk_parts hb
    have ids0 : a.kind ≠ 5 → b.kind ≠ 5 → a.ids = [] ∧ b.ids = [] := fun h1 h2 => ⟨okF_ids fa h1, okF_ids fb h2⟩
    -- a function
    have fn : ∀ mp, AInv mp l r → a.kind = 5 → b.kind = 5 → a.ids.length = b.ids.length → a.kids.length = b.kids.length → Tr (fun m => m_impl_alike_l3 m a b 0 mp) (Core.alks a.kids b.kids (l ++ a.ids) (r ++ b.ids)) := by
      intro mp hI k5 k5' hil hkl
      obtain ⟨i1, _, _, _, q1, _⟩ := okF_fn fa k5
      obtain ⟨i2, _, _, _, q2, _⟩ := okF_fn fb k5'
      have n1 := idsOk_nodup _ _ hI.nl i1
      have n2 := idsOk_nodup _ _ hI.nr i2
      obtain ⟨x, hx⟩ := List.length_eq_one_iff.1 q1
      obtain ⟨y, hy⟩ := List.length_eq_one_iff.1 q2
      have key := drop_ind a.ids (fun k zs => ∀ g, AInv g (l ++ a.ids.take k) (r ++ b.ids.take k) → Tr (fun m => m_impl_alike_l3 m a b (k : Int) g) (Core.alks a.kids b.kids (l ++ a.ids) (r ++ b.ids))) ?_ ?_ 0 (Nat.zero_le _) mp (by simpa using hI)
      · simpa using key
      · intro g hg
        rw [List.take_length, hil, List.take_length] at hg
        refine Tr.step (fun m => by rw [m_impl_alike_l3, ltN_self, cond_false]) (Tr.step (fun m => by rw [m_impl_alike_j2]) ?_)
        rw [hx, hy, alks_one]
        have := (ih x y (l ++ a.ids) (r ++ b.ids) (d - 1) (e - 1) (by have := Core.ws_mem (show x ∈ a.kids by rw [hx]; simp); omega) (ka x (by rw [hx]; simp)) (kb y (by rw [hy]; simp))).1 g hg
        exact Tr.idx (idx_nat (k := 0) (by simp)) (Tr.idx (idx_nat (k := 0) (by simp)) (Tr.bind this Tr.val))
      · intro k x zs hk hx hd ihk g hg
        obtain ⟨y, hy⟩ : ∃ y, b.ids[k]? = some y := ⟨b.ids[k]'(by omega), List.getElem?_eq_getElem _⟩
        refine Tr.step (fun m => by rw [m_impl_alike_l3, ltN hk, cond_true, idx_nat hx, Option.bind_some, idx_nat hy, Option.bind_some, succN]) (ihk _ ?_)
        have t1 : l ++ a.ids.take (k + 1) = (l ++ a.ids.take k) ++ [x] := by rw [List.take_add_one, hx, List.append_assoc]; rfl
        have t2 : r ++ b.ids.take (k + 1) = (r ++ b.ids.take k) ++ [y] := by rw [List.take_add_one, hy, List.append_assoc]; rfl
        rw [t1, t2]
        refine hg.add ?_ ?_
        · rw [← t1]; exact n1.sublist (List.Sublist.append_left (List.take_sublist _ _) _)
        · rw [← t2]; exact n2.sublist (List.Sublist.append_left (List.take_sublist _ _) _)
    rw [Core.alk_eq]
    constructor
    · intro mp hI
      have stop : Tr (fun m => m_impl_alike_j1 m a b mp true) false := Tr.step (fun m => by rw [m_impl_alike_j1, cond_true]) Tr.val
      refine Tr.step (fun m => by rw [m_impl_alike]) ?_
      by_cases h1 : a.kind = b.kind
      case neg => rw [decide_eq_false h1]; exact Tr.tt (decide_eq_true h1) stop
      refine Tr.ff (decide_eq_false (fun h => h h1)) ?_
      by_cases h5 : a.kids.length = b.kids.length
      case neg => rw [decide_eq_false h5]; simp only [Bool.false_and, Bool.and_false]; exact Tr.tt (lenB h5) stop
      refine Tr.ff (lenE h5) ?_
      by_cases h4 : a.ids.length = b.ids.length
      case neg => rw [decide_eq_false h4]; simp only [Bool.false_and, Bool.and_false]; exact Tr.eq (fun m => by rw [lenB h4]) stop
      refine Tr.eq (fun m => by rw [lenE h4]) (Tr.step (fun m => by rw [m_impl_alike_j1, cond_false]) ?_)
      rw [decide_eq_true h1, decide_eq_true h4, decide_eq_true h5]
      by_cases k1 : a.kind = 1
      · obtain ⟨q1, q2, q3, q4, q5, q6⟩ := okF_var fa k1
        obtain ⟨p1, p2, p3, p4, p5, p6⟩ := okF_var fb (h1 ▸ k1)
        refine Tr.tt (decide_eq_true k1) ?_
        rw [q2, p2, q3, p3, q5, p5, q6, p6, same_self, decide_eq_true k1, cond_true, alks_nil, hI.var q1 p1]
        exact Tr.of (fun m => by simp)
      refine Tr.ff (decide_eq_false k1) ?_
      rw [decide_eq_false k1, cond_false]
      by_cases k5 : a.kind = 5
      · obtain ⟨_, q2, q3, q4, _, _⟩ := okF_fn fa k5
        obtain ⟨_, p2, p3, p4, _, _⟩ := okF_fn fb (h1 ▸ k5)
        refine Tr.tt (decide_eq_true k5) ?_
        rw [q2, p2, q3, p3, q4, p4, same_self]
        simpa using fn mp hI k5 (h1 ▸ k5) h4 h5
      refine Tr.ff (decide_eq_false k5) ?_
      obtain ⟨e1, e2⟩ := ids0 k5 (h1 ▸ k5)
      have stop4 : Tr (fun m => m_impl_alike_j4 m a b mp true) false := Tr.step (fun m => by rw [m_impl_alike_j4, cond_true]) Tr.val
      by_cases h2 : a.name = b.name
      case neg => rw [decide_eq_false h2]; exact Tr.tt (decide_eq_true h2) stop4
      refine Tr.ff (decide_eq_false (fun h => h h2)) ?_
      by_cases h3 : a.n = b.n
      case neg => rw [decide_eq_false h3]; simp only [Bool.false_and, Bool.and_false]; exact Tr.tt (decide_eq_true h3) stop4
      refine Tr.ff (decide_eq_false (fun h => h h3)) (Tr.bind (implFormSame_tr _ _) ?_)
      rw [decide_eq_true h2, decide_eq_true h3]
      cases same a.data b.data with
      | false => exact stop4
      | true =>
      refine Tr.step (fun m => by rw [Bool.not_true, m_impl_alike_j4, cond_false]) ?_
      simp only [Bool.true_and]
      rw [e1, e2, List.append_nil, List.append_nil]
      rw [e1, List.append_nil] at ka
      rw [e2, List.append_nil] at kb
      exact loop_alk h5 (L := fun m k => m_impl_alike_l5 m a b mp k) (E := fun m x y => m_impl_alike m x y mp) (fun m k => by rw [m_impl_alike_l5]) (fun x hx y hy => (ih x y l r (d - 1) (e - 1) (by have := Core.ws_mem hx; omega) (ka x hx) (kb y hy)).1 mp hI)
    · rintro rfl rfl
      have stop : Tr (fun m => m_impl_alike_n_j1 m a b true) false := Tr.step (fun m => by rw [m_impl_alike_n_j1, cond_true]) Tr.val
      refine Tr.step (fun m => by rw [m_impl_alike_n]) ?_
      by_cases h1 : a.kind = b.kind
      case neg => rw [decide_eq_false h1]; exact Tr.tt (decide_eq_true h1) stop
      refine Tr.ff (decide_eq_false (fun h => h h1)) ?_
      by_cases h5 : a.kids.length = b.kids.length
      case neg => rw [decide_eq_false h5]; simp only [Bool.false_and, Bool.and_false]; exact Tr.tt (lenB h5) stop
      refine Tr.ff (lenE h5) ?_
      by_cases h4 : a.ids.length = b.ids.length
      case neg => rw [decide_eq_false h4]; simp only [Bool.false_and, Bool.and_false]; exact Tr.eq (fun m => by rw [lenB h4]) stop
      refine Tr.eq (fun m => by rw [lenE h4]) (Tr.step (fun m => by rw [m_impl_alike_n_j1, cond_false]) ?_)
      rw [decide_eq_true h1, decide_eq_true h4, decide_eq_true h5]
      by_cases k1 : a.kind = 1
      · exact absurd (okF_var fa k1).1 (by simp)
      refine Tr.ff (decide_eq_false k1) ?_
      rw [decide_eq_false k1, cond_false]
      by_cases k5 : a.kind = 5
      · obtain ⟨_, q2, q3, q4, _, _⟩ := okF_fn fa k5
        obtain ⟨_, p2, p3, p4, _, _⟩ := okF_fn fb (h1 ▸ k5)
        refine Tr.tt (decide_eq_true k5) ?_
        rw [q2, p2, q3, p3, q4, p4, same_self]
        simpa using fn map0 AInv.nil k5 (h1 ▸ k5) h4 h5
      refine Tr.ff (decide_eq_false k5) ?_
      obtain ⟨e1, e2⟩ := ids0 k5 (h1 ▸ k5)
      have stop4 : Tr (fun m => m_impl_alike_n_j4 m a b true) false := Tr.step (fun m => by rw [m_impl_alike_n_j4, cond_true]) Tr.val
      by_cases h2 : a.name = b.name
      case neg => rw [decide_eq_false h2]; exact Tr.tt (decide_eq_true h2) stop4
      refine Tr.ff (decide_eq_false (fun h => h h2)) ?_
      by_cases h3 : a.n = b.n
      case neg => rw [decide_eq_false h3]; simp only [Bool.false_and, Bool.and_false]; exact Tr.tt (decide_eq_true h3) stop4
      refine Tr.ff (decide_eq_false (fun h => h h3)) (Tr.bind (implFormSame_tr _ _) ?_)
      rw [decide_eq_true h2, decide_eq_true h3]
      cases same a.data b.data with
      | false => exact stop4
      | true =>
      refine Tr.step (fun m => by rw [Bool.not_true, m_impl_alike_n_j4, cond_false]) ?_
      simp only [Bool.true_and]
      rw [e1, e2, List.append_nil]
      rw [e1, List.append_nil] at ka
      rw [e2, List.append_nil] at kb
      exact loop_alk h5 (L := fun m k => m_impl_alike_n_l5 m a b k) (E := fun m x y => m_impl_alike_n m x y) (fun m k => by rw [m_impl_alike_n_l5]) (fun x hx y hy => (ih x y [] [] (d - 1) (e - 1) (by have := Core.ws_mem hx; omega) (ka x hx) (kb y hy)).2 rfl rfl)
noncomputable def Core.like (a b : Core) : Bool := a.valid && (b.valid && a.alk b [] [])
theorem valid_isOk {c : Core} (h : c.valid = true) : c.isOk [] 120 = true := by unfold Core.valid at h; rw [Bool.and_eq_true] at h; exact h.1
theorem implCoreAlike_tr (a b : Core) (ha : a.fit) (hb : b.fit) (hwa : a.w ≤ 2 ^ 36) (hwb : b.w ≤ 2 ^ 36) : Tr (fun m => m_impl_CoreAlike m a b) (a.like b) := by
  refine Tr.eq (fun m => by unfold m_impl_CoreAlike; rfl) (Tr.bind (implCoreValid_tr a ha hwa) ?_)
  unfold Core.like
  cases h1 : a.valid with
  | false => exact Tr.ff rfl Tr.val
  | true =>
  refine Tr.tt rfl (Tr.bind (implCoreValid_tr b hb hwb) ?_)
  cases h2 : b.valid with
  | false => exact Tr.ff rfl Tr.val
  | true => exact Tr.tt rfl (Tr.bind ((implAlike_n _ a b [] [] 120 120 (Nat.le_refl _) (valid_isOk h1) (valid_isOk h2)).2 rfl rfl) Tr.val)
end Go.Abs
end
section
set_option linter.unusedVariables false
set_option linter.unusedSimpArgs false
set_option maxHeartbeats 4000000
namespace Go.Abs
def seqI (c : Int) (n : Nat) : List Int := (List.range n).map (fun i : Nat => c + 1 + (i : Int))
theorem seqI_len (c : Int) (n : Nat) : (seqI c n).length = n := by simp [seqI]
theorem seqI_zero (c : Int) : seqI c 0 = [] := rfl
theorem seqI_succ (c : Int) (n : Nat) : seqI c (n + 1) = seqI c n ++ [c + n + 1] := by
  unfold seqI; rw [List.range_succ, List.map_append, List.map_singleton, show c + 1 + (n : Int) = c + n + 1 by omega]
theorem seqI_app (c : Int) (j : Nat) : ∀ k : Nat, seqI c j ++ seqI (c + j) k = seqI c (j + k)
  | 0 => by rw [seqI_zero, List.append_nil]; rfl
  | k + 1 => by rw [seqI_succ, ← List.append_assoc, seqI_app c j k, show j + (k + 1) = (j + k) + 1 by omega, seqI_succ, show c + (j : Int) + (k : Int) + 1 = c + ((j + k : Nat) : Int) + 1 by omega]
theorem seqI_mem {c : Int} {n : Nat} {x : Int} (h : x ∈ seqI c n) : c < x ∧ x ≤ c + n := by
  unfold seqI at h
  obtain ⟨i, hi, rfl⟩ := List.mem_map.1 h
  have := List.mem_range.1 hi
  omega
theorem seqI_nodup (c : Int) : ∀ n : Nat, (seqI c n).Nodup
  | 0 => List.nodup_nil
  | n + 1 => by
    rw [seqI_succ]
    refine List.nodup_append.2 ⟨seqI_nodup c n, by simp, fun a ha b hb e => ?_⟩
    have := seqI_mem ha
    simp only [List.mem_singleton] at hb
    omega
def look (l ns : List Int) (x : Int) : Int := (ns[ns.length - 1 - (findI l x).toNat]?).getD 0
mutual
def Core.num : Core → List Int → List Int → Int → Core × Int
  | .mk k i nm n ids data kids, l, ns, c => (Core.mk k (bif decide (k = 1) then look l ns i else 0) nm n (seqI c ids.length) data (Core.nums kids (l ++ ids) (ns ++ seqI c ids.length) (c + ids.length)).1, (Core.nums kids (l ++ ids) (ns ++ seqI c ids.length) (c + ids.length)).2)
def Core.nums : List Core → List Int → List Int → Int → List Core × Int
  | [], _, _, c => ([], c)
  | x :: xs, l, ns, c => ((x.num l ns c).1 :: (Core.nums xs l ns (x.num l ns c).2).1, (Core.nums xs l ns (x.num l ns c).2).2)
end
theorem Core.num_eq (a : Core) (l ns : List Int) (c : Int) : a.num l ns c = (Core.mk a.kind (bif decide (a.kind = 1) then look l ns a.id else 0) a.name a.n (seqI c a.ids.length) a.data (Core.nums a.kids (l ++ a.ids) (ns ++ seqI c a.ids.length) (c + a.ids.length)).1, (Core.nums a.kids (l ++ a.ids) (ns ++ seqI c a.ids.length) (c + a.ids.length)).2) := by
  obtain ⟨a1, a2, a3, a4, a5, a6, a7⟩ := a; rw [Core.num]; rfl
mutual
theorem Core.num_bd : ∀ (a : Core) (l ns : List Int) (c : Int), c ≤ (a.num l ns c).2 ∧ (a.num l ns c).2 ≤ c + a.w ∧ (a.num l ns c).1.w = a.w
  | .mk k i nm n ids data kids, l, ns, c => by
    have := Core.nums_bd kids (l ++ ids) (ns ++ seqI c ids.length) (c + ids.length)
    rw [Core.num]
    simp only [Core.w, seqI_len]
    omega
theorem Core.nums_bd : ∀ (a : List Core) (l ns : List Int) (c : Int), c ≤ (Core.nums a l ns c).2 ∧ (Core.nums a l ns c).2 ≤ c + Core.ws a ∧ Core.ws (Core.nums a l ns c).1 = Core.ws a
  | [], l, ns, c => by rw [Core.nums]; simp [Core.ws]
  | x :: xs, l, ns, c => by
    have := Core.num_bd x l ns c
    have := Core.nums_bd xs l ns (x.num l ns c).2
    rw [Core.nums]
    simp only [Core.ws]
    omega
end
theorem Core.nums_len : ∀ (a : List Core) (l ns : List Int) (c : Int), (Core.nums a l ns c).1.length = a.length
  | [], l, ns, c => by rw [Core.nums]
  | x :: xs, l, ns, c => by rw [Core.nums, List.length_cons, List.length_cons, Core.nums_len xs]
mutual
theorem Core.num_fit : ∀ (a : Core) (l ns : List Int) (c : Int), a.fit → (a.num l ns c).1.fit
  | .mk k i nm n ids data kids, l, ns, c, h => by
    rw [Core.fit] at h
    rw [Core.num, Core.fit, seqI_len, Core.nums_len]
    exact ⟨h.1, h.2.1, h.2.2.1, h.2.2.2.1, Core.nums_fit kids _ _ _ h.2.2.2.2⟩
theorem Core.nums_fit : ∀ (a : List Core) (l ns : List Int) (c : Int), Core.fits a → Core.fits (Core.nums a l ns c).1
  | [], l, ns, c, _ => by rw [Core.nums]; trivial
  | x :: xs, l, ns, c, h => by
    rw [Core.fits] at h
    rw [Core.nums, Core.fits]
    exact ⟨Core.num_fit x _ _ _ h.1, Core.nums_fit xs _ _ _ h.2⟩
end
theorem loop_nums {xs : List Core} {l ns : List Int} {c0 B : Int} {F : List Core → Int → Core × Int} {L : Nat → Int → Int → List Core → Option (Core × Int)} {E : Nat → Core → Int → Option (Core × Int)} (hxs : Core.ws xs ≤ 2 ^ 36)
    (h0 : ∀ m k c acc, L (m + 1) k c acc = bif decide (k < (xs.length : Int)) then (idx xs k).bind fun v => (E m v c).bind fun q => chk (decide ((acc.length + [q.1].length) * 168 ≤ 140737488355328)) (L m (k + 1) q.2 (acc ++ [q.1])) else some (F acc c))
    (hE : ∀ x ∈ xs, ∀ c, c0 ≤ c → c + x.w ≤ B → Tr (fun m => E m x c) (x.num l ns c)) (hB : c0 + Core.ws xs ≤ B) : Tr (fun m => L m 0 c0 []) (F (Core.nums xs l ns c0).1 (Core.nums xs l ns c0).2) := by
  have hl := Core.ws_len xs
  have key := drop_ind xs (fun k zs => ∀ c acc, c0 ≤ c → c + Core.ws zs ≤ B → acc.length = k → Tr (fun m => L m (k : Int) c acc) (F (acc ++ (Core.nums zs l ns c).1) (Core.nums zs l ns c).2)) ?_ ?_ 0 (Nat.zero_le _) c0 [] (Int.le_refl _) (by simpa using hB) rfl
  · simpa using key
  · intro c acc _ _ _
    refine Tr.step (fun m => by rw [h0, ltN_self, cond_false]) ?_
    rw [Core.nums, List.append_nil]; exact Tr.val
  · intro k x zs hk hx hd ih c acc hc hb hacc
    rw [Core.ws] at hb
    have hbd := x.num_bd l ns c
    refine Tr.step (fun m => by rw [h0, ltN hk, cond_true, idx_nat hx, Option.bind_some, succN]) ?_
    refine Tr.bind (hE x (List.mem_of_getElem? hx) c hc (by omega)) (Tr.chk (decide_eq_true (by simp only [List.length_singleton]; omega)) ?_)
    have := ih (x.num l ns c).2 (acc ++ [(x.num l ns c).1]) (by omega) (by omega) (by simp [hacc])
    rw [Core.nums]
    rwa [List.append_assoc] at this
theorem findI_none {l : List Int} {x : Int} (h : x ∈ l) : ∃ i : Nat, findI l x = i ∧ i < l.length := by
  cases hf : l.reverse.findIdx? (fun y => decide (y = x)) with
  | none =>
    have := List.findIdx?_eq_none_iff.1 hf x (List.mem_reverse.2 h)
    simp at this
  | some i =>
    refine ⟨i, findI_at hf, ?_⟩
    have := (List.findIdx?_eq_some_iff_getElem.1 hf).1
    simpa using this
theorem specNumber_n : ∀ (n : Nat) (a : Core) (l ns : List Int) (c : Int) (d : Nat), a.w ≤ n → a.isOk l d = true → l.length = ns.length → 0 ≤ c → c + a.w ≤ 2 ^ 40 → l.length + a.w ≤ 2 ^ 36 → Tr (fun m => m_spec_l6Number m a l ns c) (a.num l ns c) := by
  intro n
  induction n with
  | zero => intro a l ns c d h; have := a.w_pos; omega
  | succ n ih =>
    intro a l ns c d h ha hln hc hcb hlb
    have hw := a.w_kids
    obtain ⟨fa, ka⟩ := isOk_parts ha
    rw [Core.num_eq]
    have rest : ∀ g : Int, Tr (fun m => m_spec_l6Number_j1 m a l ns c a.data g) (Core.mk a.kind g a.name a.n (seqI c a.ids.length) a.data (Core.nums a.kids (l ++ a.ids) (ns ++ seqI c a.ids.length) (c + a.ids.length)).1, (Core.nums a.kids (l ++ a.ids) (ns ++ seqI c a.ids.length) (c + a.ids.length)).2) := by
      intro g
      refine Tr.step (fun m => by rw [m_spec_l6Number_j1]) ?_
      have key := drop_ind a.ids (fun k zs => Tr (fun m => m_spec_l6Number_l3 m a a.data g (l ++ a.ids.take k) (ns ++ seqI c k) (c + k) (k : Int) (seqI c k)) (Core.mk a.kind g a.name a.n (seqI c a.ids.length) a.data (Core.nums a.kids (l ++ a.ids) (ns ++ seqI c a.ids.length) (c + a.ids.length)).1, (Core.nums a.kids (l ++ a.ids) (ns ++ seqI c a.ids.length) (c + a.ids.length)).2)) ?_ ?_ 0 (Nat.zero_le _)
      · simpa [seqI_zero] using key
      · rw [List.take_length]
        refine Tr.step (fun m => by rw [m_spec_l6Number_l3, ltN_self, cond_false]) (Tr.step (fun m => by rw [m_spec_l6Number_j2]) ?_)
        exact loop_nums (xs := a.kids) (l := l ++ a.ids) (ns := ns ++ seqI c a.ids.length) (c0 := c + a.ids.length) (B := 2 ^ 40) (F := fun z q => (Core.mk a.kind g a.name a.n (seqI c a.ids.length) a.data z, q)) (L := fun m k q acc => m_spec_l6Number_l4 m a a.data g (l ++ a.ids) (ns ++ seqI c a.ids.length) (seqI c a.ids.length) q k acc) (E := fun m x q => m_spec_l6Number m x (l ++ a.ids) (ns ++ seqI c a.ids.length) q) (by omega) (fun m k q acc => by rw [m_spec_l6Number_l4])
          (fun x hx q hq hqb => ih x _ _ q (d - 1) (by have := Core.ws_mem hx; omega) (ka x hx) (by simp [hln, seqI_len]) (by omega) hqb (by have := Core.ws_mem hx; simp; omega)) (by omega)
      · intro k x zs hk hx hd ihk
        have hs := seqI_len c k
        have ht : (a.ids.take k).length ≤ a.ids.length := by simp; omega
        refine Tr.step (fun m => by rw [m_spec_l6Number_l3, ltN hk, cond_true]) ?_
        rw [w64_in (by omega)]
        refine Tr.chk (decide_eq_true (by simp only [List.length_singleton]; omega)) (Tr.chk (decide_eq_true (by simp only [List.length_nil, List.length_append]; omega)) (Tr.idx (idx_nat hx) (Tr.chk (decide_eq_true (by simp only [List.length_nil, List.length_append, List.length_singleton]; omega)) (Tr.chk (decide_eq_true (by simp only [List.length_nil, List.length_append]; omega)) (Tr.chk (decide_eq_true (by simp only [List.length_nil, List.length_append, List.length_singleton]; omega)) ?_)))))
        rw [List.take_add_one, hx, seqI_succ] at ihk
        refine Tr.eq (fun m => ?_) ihk
        rw [List.nil_append, List.nil_append, List.append_assoc, List.append_assoc, succN, show c + (k : Int) + 1 = c + ((k + 1 : Nat) : Int) by omega]
        rfl
    refine Tr.step (fun m => by rw [m_spec_l6Number]) (Tr.bind (l1Copy_tr _ a.data (Nat.le_refl _) (by omega)) ?_)
    by_cases k1 : a.kind = 1
    · obtain ⟨q1, _⟩ := okF_var fa k1
      obtain ⟨i, hi, hil⟩ := findI_none q1
      refine Tr.tt (decide_eq_true k1) (Tr.bind (l6Last_tr l _ (by omega)) ?_)
      rw [decide_eq_true k1, cond_true, hi]
      have hg : ns[ns.length - 1 - i]? = some (ns[ns.length - 1 - i]'(by omega)) := List.getElem?_eq_getElem _
      have e : w64 (w64 ((ns.length : Int) - 1) - (i : Int)) = ((ns.length - 1 - i : Nat) : Int) := by rw [w64_in (n := (ns.length : Int) - 1) (by omega), w64_in (by omega)]; omega
      refine Tr.idx (by rw [e]; exact idx_nat hg) ?_
      have : look l ns a.id = ns[ns.length - 1 - i]'(by omega) := by unfold look; rw [hi, Int.toNat_natCast, hg]; rfl
      rw [this]; exact rest _
    · rw [decide_eq_false k1, cond_false]
      exact Tr.ff rfl (rest 0)
theorem AInv.look {m : Int → Option Int} {l r : List Int} (h : AInv m l r) {x : Int} (hx : x ∈ l) : mapGet m x = look l r x := by
  obtain ⟨i, y, h1, h2, h3⟩ := h.get hx
  have h4 := (List.getElem?_eq_some_iff.1 h1).1
  have h5 := h.len
  unfold Abs.look
  rw [h3, findI_nodup h.nl h1, Int.toNat_natCast, show r.length - 1 - (l.length - 1 - i) = i by omega, h2]; rfl
theorem nodup_seq {ns : List Int} {c : Int} (h : ns.Nodup) (hb : ∀ y ∈ ns, y ≤ c) (k : Nat) : (ns ++ seqI c k).Nodup :=
  List.nodup_append.2 ⟨h, seqI_nodup c k, fun a ha b hb' e => by have := hb a ha; have := seqI_mem hb'; omega⟩
theorem bound_seq {ns : List Int} {c : Int} (hb : ∀ y ∈ ns, y ≤ c) (k : Nat) : ∀ y ∈ ns ++ seqI c k, y ≤ c + k := by
  intro y hy
  rcases List.mem_append.1 hy with h | h
  · have := hb y h; omega
  · have := seqI_mem h; omega
theorem implNumber_n : ∀ (n : Nat) (a : Core) (l ns : List Int) (c : Int) (d : Nat), a.w ≤ n → a.isOk l d = true → 0 ≤ c → c + a.w ≤ 2 ^ 40 → a.w ≤ 2 ^ 36 → (∀ y ∈ ns, y ≤ c) →
    (∀ mp, AInv mp l ns → Tr (fun m => m_impl_renumber m a mp c) (a.num l ns c)) ∧ (l = [] → ns = [] → Tr (fun m => m_impl_renumber_n m a c) (a.num l ns c)) := by
  intro n
  induction n with
  | zero => intro a l ns c d h; have := a.w_pos; omega
  | succ n ih =>
    intro a l ns c d h ha hc hcb hlb hbd
    have hw := a.w_kids
    obtain ⟨fa, ka⟩ := isOk_parts ha
    rw [Core.num_eq]
    have ok5 : ∀ l2 : List Int, a.okF l = true → l.Nodup → (l ++ a.ids).Nodup := by
      intro _ _ hn
      by_cases k5 : a.kind = 5
      · exact idsOk_nodup _ _ hn (okF_fn fa k5).1
      · rw [okF_ids fa k5, List.append_nil]; exact hn
    have rest : ∀ (g : Int) (mp : Int → Option Int), AInv mp l ns → Tr (fun m => m_impl_renumber_l3 m a a.data g 0 c [] mp) (Core.mk a.kind g a.name a.n (seqI c a.ids.length) a.data (Core.nums a.kids (l ++ a.ids) (ns ++ seqI c a.ids.length) (c + a.ids.length)).1, (Core.nums a.kids (l ++ a.ids) (ns ++ seqI c a.ids.length) (c + a.ids.length)).2) := by
      intro g mp hI
      have hN := ok5 [] fa hI.nl
      have key := drop_ind a.ids (fun k zs => ∀ mq, AInv mq (l ++ a.ids.take k) (ns ++ seqI c k) → Tr (fun m => m_impl_renumber_l3 m a a.data g (k : Int) (c + k) (seqI c k) mq) (Core.mk a.kind g a.name a.n (seqI c a.ids.length) a.data (Core.nums a.kids (l ++ a.ids) (ns ++ seqI c a.ids.length) (c + a.ids.length)).1, (Core.nums a.kids (l ++ a.ids) (ns ++ seqI c a.ids.length) (c + a.ids.length)).2)) ?_ ?_ 0 (Nat.zero_le _) mp (by simpa [seqI_zero] using hI)
      · simpa [seqI_zero] using key
      · intro mq hq
        rw [List.take_length] at hq
        refine Tr.step (fun m => by rw [m_impl_renumber_l3, ltN_self, cond_false]) (Tr.step (fun m => by rw [m_impl_renumber_j2]) ?_)
        exact loop_nums (xs := a.kids) (l := l ++ a.ids) (ns := ns ++ seqI c a.ids.length) (c0 := c + a.ids.length) (B := 2 ^ 40) (F := fun z q => (Core.mk a.kind g a.name a.n (seqI c a.ids.length) a.data z, q)) (L := fun m k q acc => m_impl_renumber_l4 m a a.data g mq (seqI c a.ids.length) k q acc) (E := fun m x q => m_impl_renumber m x mq q) (by omega) (fun m k q acc => by rw [m_impl_renumber_l4])
          (fun x hx q hq' hqb => (ih x _ _ q (d - 1) (by have := Core.ws_mem hx; omega) (ka x hx) (by omega) hqb (by have := Core.ws_mem hx; omega) (fun y hy => by have := bound_seq hbd a.ids.length y hy; omega)).1 mq hq) (by omega)
      · intro k x zs hk hx hd ihk mq hq
        have hs := seqI_len c k
        refine Tr.step (fun m => by rw [m_impl_renumber_l3, ltN hk, cond_true]) (Tr.idx (idx_nat hx) ?_)
        rw [w64_in (by omega)]
        refine Tr.chk (decide_eq_true (by simp only [List.length_singleton]; omega)) ?_
        have t1 : l ++ a.ids.take (k + 1) = (l ++ a.ids.take k) ++ [x] := by rw [List.take_add_one, hx, List.append_assoc]; rfl
        have t2 : ns ++ seqI c (k + 1) = (ns ++ seqI c k) ++ [c + k + 1] := by rw [seqI_succ, List.append_assoc]
        have := ihk (mapSet mq x (c + k + 1)) (by
          rw [t1, t2]
          refine hq.add ?_ ?_
          · rw [← t1]; exact hN.sublist (List.Sublist.append_left (List.take_sublist _ _) _)
          · rw [← t2]; exact nodup_seq hI.nr hbd _)
        rw [seqI_succ] at this
        refine Tr.eq (fun m => ?_) this
        rw [succN, show c + (k : Int) + 1 = c + ((k + 1 : Nat) : Int) by omega]
    constructor
    · intro mp hI
      refine Tr.step (fun m => by rw [m_impl_renumber]) (Tr.bind (copyForm_tr a.data (by omega)) ?_)
      by_cases k1 : a.kind = 1
      · refine Tr.tt (decide_eq_true k1) (Tr.step (fun m => by rw [m_impl_renumber_j1]) ?_)
        rw [decide_eq_true k1, cond_true, hI.look (okF_var fa k1).1]
        exact rest _ mp hI
      · refine Tr.ff (decide_eq_false k1) (Tr.step (fun m => by rw [m_impl_renumber_j1]) ?_)
        rw [decide_eq_false k1, cond_false, okF_id0 fa k1]
        exact rest _ mp hI
    · rintro rfl rfl
      refine Tr.eq (fun m => by unfold m_impl_renumber_n; rfl) (Tr.bind (copyForm_tr a.data (by omega)) ?_)
      by_cases k1 : a.kind = 1
      · exact absurd (okF_var fa k1).1 (by simp)
      · refine Tr.ff (decide_eq_false k1) (Tr.step (fun m => by rw [m_impl_renumber_n_j1]) ?_)
        rw [decide_eq_false k1, cond_false, okF_id0 fa k1]
        exact rest _ map0 AInv.nil
abbrev core0 : Core := Core.mk 0 0 (⟨#[]⟩ : ByteArray) 0 ([] : List Int) (Form.mk 0 (⟨#[]⟩ : ByteArray) 0 ([] : List Int) ([] : List Form)) ([] : List Core)
noncomputable def Core.numbered (a : Core) : Core × Bool := bif a.valid then (bif decide (999 < (a.num [] [] 0).2) then (core0, false) else ((a.num [] [] 0).1, true)) else (core0, false)
theorem specNumberCore_tr (a : Core) (ha : a.fit) (hw : a.w ≤ 2 ^ 36) : Tr (fun m => m_spec_NumberCore m a) a.numbered := by
  refine Tr.eq (fun m => by unfold m_spec_NumberCore; rfl) (Tr.bind (specCoreValid_tr a ha hw) ?_)
  unfold Core.numbered
  cases hv : a.valid with
  | false => exact Tr.tt rfl Tr.val
  | true =>
  refine Tr.ff rfl (Tr.bind (specNumber_n _ a [] [] 0 120 (Nat.le_refl _) (valid_isOk hv) rfl (by omega) (by omega) (by simpa using hw)) ?_)
  cases decide (999 < (a.num [] [] 0).2) with
  | true => exact Tr.tt rfl Tr.val
  | false => exact Tr.ff rfl Tr.val
theorem implNumberCore_tr (a : Core) (ha : a.fit) (hw : a.w ≤ 2 ^ 36) : Tr (fun m => m_impl_NumberCore m a) a.numbered := by
  refine Tr.eq (fun m => by unfold m_impl_NumberCore; rfl) (Tr.bind (implCoreValid_tr a ha hw) ?_)
  unfold Core.numbered
  cases hv : a.valid with
  | false => exact Tr.tt rfl Tr.val
  | true =>
  refine Tr.ff rfl (Tr.bind ((implNumber_n _ a [] [] 0 120 (Nat.le_refl _) (valid_isOk hv) (by omega) (by omega) hw (by simp)).2 rfl rfl) ?_)
  cases decide (999 < (a.num [] [] 0).2) with
  | true => exact Tr.tt rfl Tr.val
  | false => exact Tr.ff rfl Tr.val
theorem Core.numbered_bd (a : Core) (ha : a.fit) : a.numbered.1.w ≤ a.w + 2 ∧ a.numbered.1.fit := by
  unfold Core.numbered
  have h0 : core0.w ≤ a.w + 2 ∧ core0.fit := ⟨by have := a.w_pos; simp [core0, Core.w, Core.ws, Form.w, Form.ws]; try omega, core_fit (by decide) (by simp) (leaf_fit (by decide)) (by simp) trivial⟩
  cases a.valid with
  | false => exact h0
  | true =>
    cases decide (999 < (a.num [] [] 0).2) with
    | true => exact h0
    | false => exact ⟨by show (a.num [] [] 0).1.w ≤ _; rw [(a.num_bd [] [] 0).2.2]; omega, a.num_fit [] [] 0 ha⟩
theorem coreSame_tr (a b : Core) : Tr (fun m => m_impl_CoreSame m a b) (same a b) := Tr.eq (fun m => by unfold m_impl_CoreSame; rfl) (Tr.bind (sameCore_tr a b) Tr.val)
end Go.Abs
end
section
set_option linter.unusedVariables false
set_option linter.unusedSimpArgs false
set_option maxHeartbeats 4000000
namespace Go.Abs
mutual
def Core.allI : Core → List Int
  | .mk _ _ _ _ ids _ kids => ids ++ Core.allIs kids
def Core.allIs : List Core → List Int
  | [] => []
  | x :: xs => x.allI ++ Core.allIs xs
end
mutual
theorem Core.num_all : ∀ (a : Core) (l ns : List Int) (c : Int), ∃ k : Nat, (a.num l ns c).2 = c + k ∧ (a.num l ns c).1.allI = seqI c k
  | .mk k i nm n ids data kids, l, ns, c => by
    obtain ⟨j, h1, h2⟩ := Core.nums_all kids (l ++ ids) (ns ++ seqI c ids.length) (c + ids.length)
    refine ⟨ids.length + j, ?_, ?_⟩
    · rw [Core.num]; simp only []; rw [h1]; omega
    · rw [Core.num, Core.allI, h2, seqI_app]
theorem Core.nums_all : ∀ (a : List Core) (l ns : List Int) (c : Int), ∃ k : Nat, (Core.nums a l ns c).2 = c + k ∧ Core.allIs (Core.nums a l ns c).1 = seqI c k
  | [], l, ns, c => ⟨0, by rw [Core.nums]; simp, by rw [Core.nums]; rfl⟩
  | x :: xs, l, ns, c => by
    obtain ⟨i, h1, h2⟩ := Core.num_all x l ns c
    obtain ⟨j, h3, h4⟩ := Core.nums_all xs l ns (x.num l ns c).2
    refine ⟨i + j, ?_, ?_⟩
    · rw [Core.nums]; simp only []; rw [h3, h1]; omega
    · rw [Core.nums, Core.allIs, h2, h4, h1, seqI_app]
end
end Go.Abs
end
section
set_option linter.unusedVariables false
set_option linter.unusedSimpArgs false
set_option maxHeartbeats 4000000
namespace Go.Abs
theorem alks_cons {x y : Core} {xs ys : List Core} {l r : List Int} : Core.alks (x :: xs) (y :: ys) l r = (x.alk y l r && Core.alks xs ys l r) := by rw [Core.alks]
theorem seqI_inj {c : Int} {m n : Nat} : seqI c m = seqI c n ↔ m = n := ⟨fun h => by have := congrArg List.length h; rwa [seqI_len, seqI_len] at this, fun h => by rw [h]⟩
theorem num_snd {a b : Core} {l r ns ms : List Int} {c : Int} (h : (a.num l ns c).1 = (b.num r ms c).1) : (a.num l ns c).2 = (b.num r ms c).2 := by
  obtain ⟨i, h1, h2⟩ := a.num_all l ns c
  obtain ⟨j, h3, h4⟩ := b.num_all r ms c
  rw [h, h4] at h2
  rw [h1, h3, seqI_inj.1 h2]
theorem nums_iff {l r ns : List Int} {c0 : Int} : ∀ (xs ys : List Core) (c : Int), c0 ≤ c → xs.length = ys.length → (∀ x ∈ xs, ∀ y ∈ ys, ∀ c, c0 ≤ c → (x.alk y l r = true ↔ (x.num l ns c).1 = (y.num r ns c).1)) →
    (Core.alks xs ys l r = true ↔ (Core.nums xs l ns c).1 = (Core.nums ys r ns c).1)
  | [], [], c, _, _, _ => by rw [alks_nil, Core.nums, Core.nums]; simp
  | [], y :: ys, c, _, h, _ => by simp at h
  | x :: xs, [], c, _, h, _ => by simp at h
  | x :: xs, y :: ys, c, hc, h, ih => by
    have hb := x.num_bd l ns c
    have rc := nums_iff xs ys (x.num l ns c).2 (by omega) (by simpa using h) (fun x hx y hy => ih x (by simp [hx]) y (by simp [hy]))
    rw [alks_cons, Bool.and_eq_true, Core.nums, Core.nums, ih x (by simp) y (by simp) c hc]
    simp only [List.cons.injEq]
    constructor
    · rintro ⟨h1, h2⟩
      refine ⟨h1, ?_⟩
      rw [← num_snd h1]; exact rc.1 h2
    · rintro ⟨h1, h2⟩
      refine ⟨h1, rc.2 ?_⟩
      rw [← num_snd h1] at h2; exact h2
theorem look_at {l ns : List Int} {x : Int} {i : Nat} (hf : findI l x = i) (h : i < ns.length) : ns[ns.length - 1 - i]? = some (look l ns x) := by
  unfold look
  rw [hf, Int.toNat_natCast, List.getElem?_eq_getElem (by omega)]; rfl
theorem nodup_at {q : List Int} (hn : q.Nodup) {i j : Nat} {x : Int} (h1 : q[i]? = some x) (h2 : q[j]? = some x) : i = j := by
  have := find_at q i x hn h1
  rw [find_at q j x hn h2] at this
  exact (Option.some.inj this).symm
theorem okF_nodup {a : Core} {l : List Int} (fa : a.okF l = true) (hn : l.Nodup) : (l ++ a.ids).Nodup := by
  by_cases k5 : a.kind = 5
  · exact idsOk_nodup _ _ hn (okF_fn fa k5).1
  · rw [okF_ids fa k5, List.append_nil]; exact hn
theorem alk_num : ∀ (n : Nat) (a b : Core) (l r ns : List Int) (c : Int) (d e : Nat), a.w ≤ n → a.isOk l d = true → b.isOk r e = true → l.length = ns.length → r.length = ns.length → l.Nodup → r.Nodup → ns.Nodup → (∀ y ∈ ns, y ≤ c) →
    (a.alk b l r = true ↔ (a.num l ns c).1 = (b.num r ns c).1) := by
  intro n
  induction n with
  | zero => intro a b l r ns c d e h; have := a.w_pos; omega
  | succ n ih =>
    intro a b l r ns c d e h ha hb hl hr nl nr nn hbd
    have hw := a.w_kids
    obtain ⟨fa, ka⟩ := isOk_parts ha
    obtain ⟨fb, kb⟩ := isOk_parts hb
    have kids : a.ids.length = b.ids.length → a.kids.length = b.kids.length → (Core.alks a.kids b.kids (l ++ a.ids) (r ++ b.ids) = true ↔ (Core.nums a.kids (l ++ a.ids) (ns ++ seqI c a.ids.length) (c + a.ids.length)).1 = (Core.nums b.kids (r ++ b.ids) (ns ++ seqI c a.ids.length) (c + a.ids.length)).1) := by
      intro h4 h6
      refine nums_iff (c0 := c + a.ids.length) a.kids b.kids _ (Int.le_refl _) h6 (fun x hx y hy q hq => ?_)
      refine ih x y _ _ _ q (d - 1) (e - 1) (by have := Core.ws_mem hx; omega) (ka x hx) (kb y hy) (by simp [hl, seqI_len]) (by simp [hr, seqI_len, h4]) (okF_nodup fa nl) (okF_nodup fb nr) (nodup_seq nn hbd _) (fun y hy => ?_)
      have := bound_seq hbd a.ids.length y hy
      omega
    rw [Core.alk_eq, Core.num_eq a, Core.num_eq b]
    simp only [Core.mk.injEq, Bool.and_eq_true, decide_eq_true_eq, same_iff, seqI_inj]
    constructor
    · rintro ⟨h1, h2, h3, h4, h5, h6, h7, h8⟩
      refine ⟨h1, ?_, h2, h3, h4, h5, ?_⟩
      · by_cases k1 : a.kind = 1
        · rw [decide_eq_true k1, cond_true, decide_eq_true_iff] at h7
          rw [decide_eq_true k1, decide_eq_true (show b.kind = 1 by omega), cond_true, cond_true]
          unfold look; rw [h7]
        · rw [decide_eq_false k1, decide_eq_false (show ¬ b.kind = 1 by omega)]; rfl
      · rw [← h4]; exact (kids h4 h6).1 h8
    · rintro ⟨h1, h7, h2, h3, h4, h5, h8⟩
      have h6 : a.kids.length = b.kids.length := by
        have := congrArg List.length h8
        rwa [Core.nums_len, Core.nums_len] at this
      rw [← h4] at h8
      refine ⟨h1, h2, h3, h4, h5, h6, ?_, (kids h4 h6).2 h8⟩
      by_cases k1 : a.kind = 1
      · have k1' : b.kind = 1 := by omega
        rw [decide_eq_true k1, decide_eq_true k1', cond_true, cond_true] at h7
        rw [decide_eq_true k1, cond_true, decide_eq_true_iff]
        obtain ⟨i, hi, hil⟩ := findI_none (okF_var fa k1).1
        obtain ⟨j, hj, hjl⟩ := findI_none (okF_var fb k1').1
        have e1 := look_at (ns := ns) hi (by omega)
        have e2 := look_at (ns := ns) hj (by omega)
        rw [h7] at e1
        have := nodup_at nn e1 e2
        omega
      · rw [decide_eq_false k1, cond_false]
theorem numbered_true {a : Core} (h : a.numbered.2 = true) : a.valid = true ∧ a.numbered.1 = (a.num [] [] 0).1 := by
  unfold Core.numbered at h ⊢
  cases hv : a.valid with
  | false => rw [hv] at h; cases h
  | true =>
    cases hc : decide (999 < (a.num [] [] 0).2) with
    | true => rw [hv, hc] at h; cases h
    | false => exact ⟨rfl, rfl⟩
end Go.Abs
end
section
set_option linter.unusedVariables false
set_option linter.unusedSimpArgs false
set_option maxHeartbeats 4000000
namespace Go.Abs
theorem look_self {ns : List Int} {y : Int} (hn : ns.Nodup) (hy : y ∈ ns) : look ns ns y = y := by
  obtain ⟨i, hi⟩ := List.mem_iff_getElem?.1 hy
  have h1 := (List.getElem?_eq_some_iff.1 hi).1
  unfold look
  rw [findI_nodup hn hi, Int.toNat_natCast, show ns.length - 1 - (ns.length - 1 - i) = i by omega, hi]; rfl
theorem look_mem {l ns : List Int} {x : Int} (hl : l.length = ns.length) (hx : x ∈ l) : look l ns x ∈ ns := by
  obtain ⟨i, hi, hil⟩ := findI_none hx
  exact List.mem_of_getElem? (look_at hi (by omega))
theorem nums_idem_of {l ns : List Int} {c0 : Int} : ∀ (xs : List Core) (c : Int), c0 ≤ c → (∀ x ∈ xs, ∀ c, c0 ≤ c → (x.num l ns c).1.num ns ns c = x.num l ns c) → Core.nums (Core.nums xs l ns c).1 ns ns c = Core.nums xs l ns c
  | [], c, _, _ => by rw [Core.nums, Core.nums]
  | x :: xs, c, hc, ih => by
    have hb := x.num_bd l ns c
    have rc := nums_idem_of xs (x.num l ns c).2 (by omega) (fun y hy => ih y (by simp [hy]))
    rw [Core.nums]
    simp only []
    rw [Core.nums, ih x (by simp) c hc, rc]
theorem num_idem : ∀ (n : Nat) (a : Core) (l ns : List Int) (c : Int) (d : Nat), a.w ≤ n → a.isOk l d = true → l.length = ns.length → ns.Nodup → (∀ y ∈ ns, y ≤ c) → (a.num l ns c).1.num ns ns c = a.num l ns c := by
  intro n
  induction n with
  | zero => intro a l ns c d h; have := a.w_pos; omega
  | succ n ih =>
    intro a l ns c d h ha hl hn hb
    have hw := a.w_kids
    obtain ⟨fa, ka⟩ := isOk_parts ha
    have kids : Core.nums (Core.nums a.kids (l ++ a.ids) (ns ++ seqI c a.ids.length) (c + a.ids.length)).1 (ns ++ seqI c a.ids.length) (ns ++ seqI c a.ids.length) (c + a.ids.length) = Core.nums a.kids (l ++ a.ids) (ns ++ seqI c a.ids.length) (c + a.ids.length) :=
      nums_idem_of (c0 := c + a.ids.length) a.kids _ (Int.le_refl _) (fun x hx q hq => ih x _ _ q (d - 1) (by have := Core.ws_mem hx; omega) (ka x hx) (by simp [hl, seqI_len]) (nodup_seq hn hb _) (fun y hy => by have := bound_seq hb a.ids.length y hy; omega))
    rw [Core.num_eq a]
    simp only []
    rw [Core.num, seqI_len, kids]
    by_cases k1 : a.kind = 1
    · rw [decide_eq_true k1, cond_true, cond_true, look_self hn (look_mem hl (okF_var fa k1).1)]
    · rw [decide_eq_false k1, cond_false, cond_false]
theorem nums_all_of {l ns : List Int} {c0 B : Int} {D : Core → Bool} : ∀ (xs : List Core) (c : Int), c0 ≤ c → (Core.nums xs l ns c).2 ≤ B → (∀ x ∈ xs, ∀ c, c0 ≤ c → (x.num l ns c).2 ≤ B → D (x.num l ns c).1 = true) → alls D (Core.nums xs l ns c).1 = true
  | [], c, _, _, _ => by rw [Core.nums]; rfl
  | x :: xs, c, hc, hB, ih => by
    have hb := x.num_bd l ns c
    have hb2 := Core.nums_bd xs l ns (x.num l ns c).2
    rw [Core.nums] at hB ⊢
    simp only [] at hB ⊢
    rw [alls, Bool.and_eq_true]
    exact ⟨ih x (by simp) c hc (by omega), nums_all_of xs _ (by omega) hB (fun y hy => ih y (by simp [hy]))⟩
theorem idsOk_seq : ∀ (n : Nat) (c : Int) (ns : List Int), 0 ≤ c → c + n ≤ 999 → (∀ y ∈ ns, y ≤ c) → idsOk ns (seqI c n) = true := by
  have shift : ∀ (n : Nat) (c : Int), seqI c (n + 1) = (c + 1) :: seqI (c + 1) n := by
    intro n c
    have := seqI_app c 1 n
    rw [Nat.add_comm 1 n] at this
    rw [← this]
    have e : seqI c 1 = [c + 1] := by rw [seqI_succ, seqI_zero]; simp
    rw [e]; rfl
  intro n
  induction n with
  | zero => intro c ns _ _ _; rw [seqI_zero, idsOk]
  | succ n ih =>
    intro c ns h0 hB hb
    rw [shift, idsOk, decide_eq_true (show 1 ≤ c + 1 by omega), decide_eq_true (show c + 1 ≤ 999 by omega)]
    have hn : hasB ns (c + 1) = false := by
      cases h : hasB ns (c + 1) with
      | false => rfl
      | true => have := hb _ (hasB_iff.1 h); omega
    rw [hn, ih (c + 1) _ (by omega) (by omega) (fun y hy => by
      rcases List.mem_append.1 hy with h | h
      · have := hb y h; omega
      · simp only [List.mem_singleton] at h; omega)]
    rfl
noncomputable def okH (k i : Int) (nm : ByteArray) (n : Int) (ids : List Int) (data : Form) (len : Nat) (ar : List Int) : Bool :=
  bif decide (k = 1) then (decide (1 ≤ i) && decide (i ≤ 999)) && (hasB ar i && (decide (nm = e0) && (decide (n = 0) && (decide (ids = []) && (same data form0 && decide ((len : Int) = 0))))))
  else bif decide (k = 2) then nmOk nm && (decide (i = 0) && (decide (n = 0) && (decide (ids = []) && (same data form0 && decide ((len : Int) = 0)))))
  else bif decide (k = 3) then (decide (0 ≤ n) && decide (n ≤ 999)) && (decide (i = 0) && (decide (nm = e0) && (decide (ids = []) && (same data form0 && decide ((len : Int) = 0)))))
  else bif decide (k = 4) then (data.valid && noScs data) && (decide (i = 0) && (decide (nm = e0) && (decide (n = 0) && (decide (ids = []) && decide ((len : Int) = 0)))))
  else bif decide (k = 5) then idsOk ar ids && (decide (i = 0) && (decide (nm = e0) && (decide (n = 0) && (same data form0 && decide ((len : Int) = 1)))))
  else bif decide (k = 6) then (decide (i = 0) && (decide (nm = e0) && (decide (n = 0) && (decide (ids = []) && (same data form0 && decide (1 ≤ (len : Int)))))))
  else bif decide (k = 7) then (decide (i = 0) && (decide (nm = e0) && (decide (n = 0) && (decide (ids = []) && (same data form0 && decide ((len : Int) = 3))))))
  else false
theorem okF_h (c : Core) (ar : List Int) : c.okF ar = okH c.kind c.id c.name c.n c.ids c.data c.kids.length ar := rfl
theorem okF_other {a : Core} {l m : List Int} {kids : List Core} (h : a.okF l = true) (k1 : a.kind ≠ 1) (k5 : a.kind ≠ 5) (hl : kids.length = a.kids.length) : (Core.mk a.kind 0 a.name a.n [] a.data kids).okF m = true := by
  have hid := okF_id0 h k1
  have hids := okF_ids h k5
  rw [okF_h, hid, hids] at h
  show okH a.kind 0 a.name a.n [] a.data kids.length m = true
  rw [hl]
  unfold okH at h ⊢
  rw [decide_eq_false k1, cond_false] at h ⊢
  by_cases k2 : a.kind = 2
  · simp only [k2, Int.reduceEq, decide_true, decide_false, cond_true, cond_false] at h ⊢; exact h
  by_cases k3 : a.kind = 3
  · simp only [k3, Int.reduceEq, decide_true, decide_false, cond_true, cond_false] at h ⊢; exact h
  by_cases k4 : a.kind = 4
  · simp only [k4, Int.reduceEq, decide_true, decide_false, cond_true, cond_false] at h ⊢; exact h
  by_cases k6 : a.kind = 6
  · simp only [k6, Int.reduceEq, decide_true, decide_false, cond_true, cond_false] at h ⊢; exact h
  by_cases k7 : a.kind = 7
  · simp only [k7, Int.reduceEq, decide_true, decide_false, cond_true, cond_false] at h ⊢; exact h
  simp only [k2, k3, k4, k5, k6, k7, decide_false, cond_false] at h; cases h
theorem num_ok : ∀ (n : Nat) (a : Core) (l ns : List Int) (c : Int) (d : Nat), a.w ≤ n → a.isOk l d = true → l.length = ns.length → ns.Nodup → 0 ≤ c → (∀ y ∈ ns, 1 ≤ y ∧ y ≤ c) → (a.num l ns c).2 ≤ 999 → (a.num l ns c).1.isOk ns d = true := by
  intro n
  induction n with
  | zero => intro a l ns c d h; have := a.w_pos; omega
  | succ n ih =>
    intro a l ns c d h ha hl hn h0 hb hB
    have hw := a.w_kids
    have hd : d ≠ 0 := by
      intro hd; rw [Core.isOk_eq, decide_eq_true hd] at ha; cases ha
    obtain ⟨fa, ka⟩ := isOk_parts ha
    rw [Core.num_eq] at hB ⊢
    simp only [] at hB ⊢
    have hkb := Core.nums_bd a.kids (l ++ a.ids) (ns ++ seqI c a.ids.length) (c + a.ids.length)
    rw [Core.isOk_eq, decide_eq_false hd, cond_false, Bool.and_eq_true]
    refine ⟨?_, ?_⟩
    · by_cases k1 : a.kind = 1
      · obtain ⟨q1, q2, q3, q4, q5, q6⟩ := okF_var fa k1
        have hm := look_mem hl q1
        have hr := hb _ hm
        show okH a.kind (bif decide (a.kind = 1) then look l ns a.id else 0) a.name a.n (seqI c a.ids.length) a.data (Core.nums a.kids (l ++ a.ids) (ns ++ seqI c a.ids.length) (c + a.ids.length)).1.length ns = true
        rw [Core.nums_len, q4, q6]
        unfold okH
        simp only [k1, q2, q3, q5, decide_true, cond_true, seqI_zero, List.length_nil]
        rw [decide_eq_true (show 1 ≤ look l ns a.id from hr.1), decide_eq_true (show look l ns a.id ≤ 999 by omega), hasB_iff.2 hm, same_self]
        rfl
      · rw [decide_eq_false k1, cond_false]
        by_cases k5 : a.kind = 5
        · obtain ⟨_, q2, q3, q4, q5, _⟩ := okF_fn fa k5
          show okH a.kind 0 a.name a.n (seqI c a.ids.length) a.data (Core.nums a.kids (l ++ a.ids) (ns ++ seqI c a.ids.length) (c + a.ids.length)).1.length ns = true
          rw [Core.nums_len, q5]
          unfold okH
          simp only [k5, q2, q3, q4, Int.reduceEq, decide_true, decide_false, cond_true, cond_false]
          rw [idsOk_seq _ c ns h0 (by omega) (fun y hy => (hb y hy).2), same_self]
          rfl
        · rw [okF_ids fa k5, List.length_nil, seqI_zero]
          exact okF_other fa k1 k5 (Core.nums_len _ _ _ _)
    · refine nums_all_of (c0 := c + a.ids.length) (B := 999) a.kids _ (Int.le_refl _) hB (fun x hx q hq hqB => ?_)
      refine ih x _ _ q (d - 1) (by have := Core.ws_mem hx; omega) (ka x hx) (by simp [hl, seqI_len]) (nodup_seq hn (fun y hy => (hb y hy).2) _) (by omega) (fun y hy => ?_) hqB
      rcases List.mem_append.1 hy with h | h
      · have := hb y h; omega
      · have := seqI_mem h; omega
mutual
theorem Core.num_cnt : ∀ (a : Core) (l ns : List Int) (c : Int), (a.num l ns c).1.cnt = a.cnt
  | .mk k i nm n ids data kids, l, ns, c => by rw [Core.num, Core.cnt, Core.cnt, Core.nums_cnt kids]
theorem Core.nums_cnt : ∀ (a : List Core) (l ns : List Int) (c : Int), Core.cnts (Core.nums a l ns c).1 = Core.cnts a
  | [], l, ns, c => by rw [Core.nums]
  | x :: xs, l, ns, c => by rw [Core.nums, Core.cnts, Core.cnts, Core.num_cnt x, Core.nums_cnt xs]
end
theorem numbered_facts {a : Core} (h : a.numbered.2 = true) : a.numbered.1.valid = true ∧ a.numbered.1.like a = true ∧ a.numbered.1.numbered = (a.numbered.1, true) := by
  obtain ⟨hv, e⟩ := numbered_true h
  have hB : (a.num [] [] 0).2 ≤ 999 := by
    unfold Core.numbered at h
    rw [hv, cond_true] at h
    by_cases hc : 999 < (a.num [] [] 0).2
    · rw [decide_eq_true hc] at h; cases h
    · omega
  have hid := num_idem _ a [] [] 0 120 (Nat.le_refl _) (valid_isOk hv) rfl List.nodup_nil (by simp)
  have hok := num_ok _ a [] [] 0 120 (Nat.le_refl _) (valid_isOk hv) rfl List.nodup_nil (by omega) (by simp) hB
  rw [e]
  have hcn : a.cnt ≤ 600 := by
    unfold Core.valid at hv
    rw [Bool.and_eq_true] at hv
    exact of_decide_eq_true hv.2
  have hnv : (a.num [] [] 0).1.valid = true := by
    unfold Core.valid
    rw [Bool.and_eq_true]
    exact ⟨hok, decide_eq_true (by rw [Core.num_cnt]; exact hcn)⟩
  refine ⟨hnv, ?_, ?_⟩
  · unfold Core.like
    rw [hnv, hv, Bool.true_and, Bool.true_and]
    exact (alk_num _ _ a [] [] [] 0 120 120 (Nat.le_refl _) hok (valid_isOk hv) rfl rfl List.nodup_nil List.nodup_nil List.nodup_nil (by simp)).2 (by rw [hid])
  · unfold Core.numbered
    rw [hnv, cond_true, hid, decide_eq_false (by omega)]; rfl
end Go.Abs
end
section
set_option linter.unusedVariables false
set_option linter.unusedSimpArgs false
set_option maxHeartbeats 4000000
namespace Go.Abs
theorem FnNumberCore_law (code : List Int) (h : ∀ x ∈ code, 0 ≤ x ∧ x < 256) : TQ (fun m => m_laws_FnNumberCore m code) (fun r => r = true) := by
  refine TQ.eq (fun m => by unfold m_laws_FnNumberCore; rfl) (TQ.cond (fun _ => TQ.val rfl) (fun _ => ?_))
  refine TQ.bind (f := fun m => m_spec_DrawNumberCore m code) (Q := fun c => c.w ≤ 2 ^ 20 ∧ c.fit) (TQ.eq (fun m => by unfold m_spec_DrawNumberCore; rfl) (TQ.bind (l6Draw_tq code h) (fun v hv => TQ.val hv))) (fun a ha => ?_)
  obtain ⟨hw, hf⟩ := ha
  have hb : a.w ≤ 2 ^ 36 := by omega
  obtain ⟨nw, nf⟩ := a.numbered_bd hf
  have nb : a.numbered.1.w ≤ 2 ^ 36 := by omega
  refine ⟨true, ?_, rfl⟩
  refine Tr.bind (implNumberCore_tr a hf hb) (Tr.bind (specNumberCore_tr a hf hb) (Tr.bind (coreSame_tr _ _) ?_))
  rw [same_self]
  refine Tr.ff rfl (Tr.ff (decide_eq_false (fun h => h rfl)) ?_)
  cases hn : a.numbered.2 with
  | false =>
    refine Tr.step (fun m => by rw [Bool.not_false, m_laws_FnNumberCore_j1, cond_true]) (Tr.bind (coreSame_tr _ _) ?_)
    rw [same_self]
    refine Tr.tt rfl (Tr.step (fun m => by rw [m_laws_FnNumberCore_j2, decide_eq_true rfl]) Tr.val)
  | true =>
    obtain ⟨q1, q2, q3⟩ := numbered_facts hn
    refine Tr.step (fun m => by rw [Bool.not_true, m_laws_FnNumberCore_j1, cond_false]) (Tr.bind (implNumberCore_tr _ nf nb) (Tr.bind (implCoreValid_tr _ nf nb) ?_))
    rw [q1]
    refine Tr.tt rfl (Tr.bind (implCoreAlike_tr _ _ nf hf nb hb) ?_)
    rw [q2, q3]
    refine Tr.tt rfl (Tr.tt rfl (Tr.bind (coreSame_tr _ _) ?_))
    rw [same_self]; exact Tr.val
end Go.Abs
end
