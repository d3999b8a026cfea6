/- A part of the proof: what the functions that the law calls answer, as pure values. -/
import Derived.Test.YtehdhaaopmihaaaGreatDoorK0a82d769b634
import Derived.Test.YtehdhaaopmihaaaGreatDoorK2fa2763a6b98
import Derived.Test.YtehdhaaopmihaaaGreatDoorK5b2a5b68cfac
import Derived.Test.YtehdhaaopmihaaaGreatDoorKdc659122356e
set_option linter.unusedSimpArgs false
set_option linter.unusedVariables false
section
set_option linter.unusedVariables false
set_option linter.unusedSimpArgs false
set_option maxHeartbeats 4000000
namespace Go.Abs
theorem nm_fit {l : List ByteArray} (h : l.all (fun s => decide (s.size ≤ 100)) = true) {x : ByteArray} (hx : x ∈ l) : x.size ≤ 9223372036854775807 := by
  have := List.all_eq_true.1 h x hx
  have := of_decide_eq_true this
  omega
theorem leaf_fit {k : Int} {nm : ByteArray} {n : Int} (h : nm.size ≤ 9223372036854775807) : (Form.mk k nm n [] []).fit := by rw [Form.fit]; exact ⟨h, by simp, by simp, trivial⟩
theorem core_fit {k i : Int} {nm : ByteArray} {n : Int} {ids : List Int} {d : Form} {kids : List Core} (h1 : nm.size ≤ 9223372036854775807) (h2 : ids.length ≤ 9223372036854775807) (h3 : d.fit) (h4 : kids.length ≤ 9223372036854775807) (h5 : Core.fits kids) : (Core.mk k i nm n ids d kids).fit := by rw [Core.fit]; exact ⟨h1, h2, h3, h4, h5⟩
theorem form_one {f : Form} (h : f.fit) : Form.fits [f] := by rw [Form.fits]; exact ⟨h, trivial⟩
theorem core_one {f : Core} (h : f.fit) : Core.fits [f] := by rw [Core.fits]; exact ⟨h, trivial⟩
theorem Core.fits_app : ∀ {a b : List Core}, Core.fits a → Core.fits b → Core.fits (a ++ b)
  | [], b, _, h => h
  | x :: xs, b, h1, h2 => by rw [Core.fits] at h1; rw [List.cons_append, Core.fits]; exact ⟨h1.1, Core.fits_app h1.2 h2⟩
theorem Core.fits_set : ∀ (l : List Core) (i : Nat) (x : Core), Core.fits l → x.fit → Core.fits (l.set i x)
  | [], i, x, h, _ => h
  | y :: l, 0, x, h, hx => by rw [Core.fits] at h; rw [List.set_cons_zero, Core.fits]; exact ⟨hx, h.2⟩
  | y :: l, i + 1, x, h, hx => by rw [Core.fits] at h; rw [List.set_cons_succ, Core.fits]; exact ⟨h.1, Core.fits_set l i x h.2 hx⟩
theorem pow4 (d : Nat) : 1 ≤ 4 ^ d := Nat.pos_of_ne_zero (by simp)
theorem pow4s (d : Nat) : 4 ^ (d + 1) = 4 * 4 ^ d := by rw [Nat.pow_succ]; omega
theorem l1Some_tq : ∀ (d : Nat) (o : l15Rd) (K : Int), OkRd o K → d ≤ 12 → K + ((4 ^ (d + 1) : Nat) : Int) ≤ 1000000000 → TQ (fun m => m_spec_l1Some m o (d : Int)) (fun r => OkRd r.2 (K + ((4 ^ (d + 1) : Nat) : Int)) ∧ r.1.w ≤ 4 ^ (d + 1) ∧ r.1.fit) := by
  intro d
  induction d with
  | zero =>
    intro o K h hd hK
    refine TQ.step (fun m => by rw [m_spec_l1Some]) ?_
    refine TQ.cond (fun hc => ?_) (fun hc => by simp at hc)
    refine TQ.bind (pick_tq o 4 K h (by omega)) (fun v hv => ?_)
    refine TQ.cond (fun _ => ?_) (fun _ => ?_)
    · refine TQ.bind (num_tq _ _ _ hv.1 (by omega) (by decide)) (fun w hw => TQ.val ⟨hw.1.mono (by simp; omega), by simp [Form.w, Form.ws], leaf_fit (by decide)⟩)
    · refine TQ.bind (of_tq _ _ _ hv.1 (by omega) (by decide)) (fun w hw => ?_)
      exact TQ.ev (Tr.of (fun m => rfl)) (TQ.val ⟨hw.1.mono (by simp; omega), by simp [Form.w, Form.ws], leaf_fit (nm_fit (by decide) hw.2)⟩)
  | succ d ih =>
    intro o K h hd hK
    have p1 := pow4 d
    have p2 := pow4s d
    have p3 := pow4s (d + 1)
    refine TQ.step (fun m => by rw [m_spec_l1Some]) ?_
    refine TQ.cond (fun hc => by simp at hc; omega) (fun hc => ?_)
    refine TQ.bind (pick_tq o 3 K h (by omega)) (fun v hv => ?_)
    refine TQ.cond (fun _ => ?_) (fun _ => ?_)
    · refine TQ.bind (pick_tq _ 4 _ hv.1 (by omega)) (fun v hv => ?_)
      refine TQ.cond (fun _ => ?_) (fun _ => ?_)
      · refine TQ.bind (num_tq _ _ _ hv.1 (by omega) (by decide)) (fun w hw => TQ.val ⟨hw.1.mono (by omega), by simp only [Form.w, Form.ws, List.length_nil]; omega, leaf_fit (by decide)⟩)
      · refine TQ.bind (of_tq _ _ _ hv.1 (by omega) (by decide)) (fun w hw => ?_)
        exact TQ.ev (Tr.of (fun m => rfl)) (TQ.val ⟨hw.1.mono (by omega), by simp only [Form.w, Form.ws, List.length_nil]; omega, leaf_fit (nm_fit (by decide) hw.2)⟩)
    · refine TQ.bind (pick_tq _ 4 _ hv.1 (by omega)) (fun v hv => ?_)
      obtain ⟨h1, _, h2, _⟩ := hv
      obtain ⟨h2, h3⟩ := h2 (by decide)
      have ed : w64 (((d + 1 : Nat) : Int) - 1) = (d : Int) := by rw [w64_in (by omega)]; omega
      have key : ∀ (j : Nat) (b : List Int) (p : Int) (l : List Form) (K' : Int), j ≤ 3 → OkRd ⟨b, p⟩ K' → K' + (j : Int) * ((4 ^ (d + 1) : Nat) : Int) ≤ 1000000000 → l.length ≤ 3 - j → Form.fits l →
          TQ (fun m => m_spec_l1Some_l1 m ((d + 1 : Nat) : Int) (j : Int) b p l) (fun r => OkRd r.2 (K' + (j : Int) * ((4 ^ (d + 1) : Nat) : Int)) ∧ r.1.w ≤ 1 + Form.ws l + j * (1 + 4 ^ (d + 1)) ∧ r.1.fit) := by
        intro j
        induction j with
        | zero =>
          intro b p l K' hj hb hK' hl hfl
          refine TQ.step (fun m => by rw [m_spec_l1Some_l1]) ?_
          refine TQ.cond (fun hc => by simp at hc) (fun hc => TQ.val ⟨hb.mono (by simp), by simp [Form.w], by rw [Form.fit]; exact ⟨by decide, by simp, by omega, hfl⟩⟩)
        | succ j ihj =>
          intro b p l K' hj hb hK' hl hfl
          have em : ((j + 1 : Nat) : Int) * ((4 ^ (d + 1) : Nat) : Int) = (j : Int) * ((4 ^ (d + 1) : Nat) : Int) + ((4 ^ (d + 1) : Nat) : Int) := by rw [Int.natCast_add, Int.add_mul]; simp
          have e0 : 0 ≤ (j : Int) * ((4 ^ (d + 1) : Nat) : Int) := Int.mul_nonneg (by omega) (by omega)
          have en : (j + 1) * (1 + 4 ^ (d + 1)) = j * (1 + 4 ^ (d + 1)) + (1 + 4 ^ (d + 1)) := by rw [Nat.add_mul]; omega
          refine TQ.step (fun m => by rw [m_spec_l1Some_l1, ed]) ?_
          refine TQ.cond (fun hc => ?_) (fun hc => by exfalso; simp at hc; try omega)
          refine TQ.bind (ih _ K' hb (by omega) (by omega)) (fun v hv => ?_)
          refine TQ.chk (by simp; omega) ?_
          have ew : w64 (((j + 1 : Nat) : Int) - 1) = (j : Int) := by rw [w64_in (by omega)]; omega
          rw [ew]
          refine (ihj _ _ _ _ (by omega) hv.1.mk' (by omega) (by simp; omega) (Form.fits_app hfl (form_one hv.2.2))).mono (fun r hr => ⟨hr.1.mono (by omega), ?_, hr.2.2⟩)
          have := hr.2.1
          have hv2 := hv.2.1
          rw [Form.ws_append] at this
          simp only [Form.ws] at this
          omega
      obtain ⟨j, hj⟩ := Int.eq_ofNat_of_zero_le h2
      rw [hj]
      have hj3 : j ≤ 3 := by omega
      have hm : (j : Int) * ((4 ^ (d + 1) : Nat) : Int) ≤ 3 * ((4 ^ (d + 1) : Nat) : Int) := Int.mul_le_mul_of_nonneg_right (by omega) (by omega)
      have hm2 : j * (1 + 4 ^ (d + 1)) ≤ 3 * (1 + 4 ^ (d + 1)) := Nat.mul_le_mul_right _ hj3
      refine (key j _ _ [] (K + 1 + 1) hj3 h1.mk' (by omega) (by simp) trivial).mono (fun r hr => ⟨hr.1.mono (by omega), ?_, hr.2.2⟩)
      have := hr.2.1
      simp only [Form.ws] at this
      omega
theorem l6Copy_tr : ∀ (n : Nat) (f : Core), f.w ≤ n → f.w ≤ 2 ^ 36 → Tr (fun m => m_spec_l6Copy m f) f := by
  intro n
  induction n with
  | zero => intro f h _; have := f.w_kids; omega
  | succ n ih =>
    intro f h hb
    have hw := f.w_kids
    have hl := Core.ws_len f.kids
    refine Tr.step (fun m => by rw [m_spec_l6Copy]) ?_
    refine Tr.chk (by simp; omega) ?_
    refine Tr.bind (l1Copy_tr _ f.data (Nat.le_refl _) (by omega)) ?_
    have key := drop_ind f.kids (fun k ys => ∀ acc : List Core, acc.length = k → Tr (fun m => m_spec_l6Copy_l1 m f f.data (k : Int) acc) (Core.mk f.kind f.id f.name f.n f.ids f.data (acc ++ ys))) ?_ ?_ 0 (Nat.zero_le _) [] rfl
    · rw [List.drop_zero, List.nil_append] at key
      obtain ⟨a, b, c, d, e, g, h⟩ := f
      exact key
    · intro acc _
      refine Tr.step (fun m => by rw [m_spec_l6Copy_l1, ltN_self]) ?_
      rw [List.append_nil]; exact Tr.val
    · intro k x xs hk hx hd ihk acc hacc
      have hmem : x ∈ f.kids := List.mem_of_getElem? hx
      have hxw := Core.ws_mem hmem
      refine Tr.step (fun m => by rw [m_spec_l6Copy_l1, ltN hk, idx_nat hx, succN]) ?_
      refine Tr.bind (ih x (by omega) (by omega)) ?_
      refine Tr.chk (by simp; omega) ?_
      have := ihk (acc ++ [x]) (by simp; exact hacc)
      rwa [List.append_assoc] at this
def leafF (x4 : Int) (v7 : Int × l15Rd) (fuel : Nat) : Option (Core × Int × l15Rd) :=
  (bif (decide (v7.1 = 0)) then
 (m_spec_l1Some fuel v7.2 1).bind fun v9 =>
 some ((Core.mk 4 0 (⟨#[]⟩ : ByteArray) 0 ([] : List Int) v9.1 ([] : List Core)), x4, v9.2)
 else
 (bif (decide (v7.1 = 1)) then
 (m_spec_l15Rd_of fuel v7.2 [(⟨#[102]⟩ : ByteArray), (⟨#[43]⟩ : ByteArray), (⟨#[108, 105, 115, 116]⟩ : ByteArray)]).bind fun v11 =>
 some ((Core.mk 2 0 v11.1 0 ([] : List Int) (Form.mk 0 (⟨#[]⟩ : ByteArray) 0 ([] : List Int) ([] : List Form)) ([] : List Core)), x4, v11.2)
 else
 (m_spec_l15Rd_num fuel v7.2 [0, 1, 5, 42]).bind fun v12 =>
 some ((Core.mk 3 0 (⟨#[]⟩ : ByteArray) v12.1 ([] : List Int) (Form.mk 0 (⟨#[]⟩ : ByteArray) 0 ([] : List Int) ([] : List Form)) ([] : List Core)), x4, v12.2)))
theorem leafF_tq (x4 : Int) (v7 : Int × l15Rd) (K : Int) (h : OkRd v7.2 K) (hK : K + 16 ≤ 1000000000) : TQ (leafF x4 v7) (fun r => OkRd r.2.2 (K + 16) ∧ r.1.w ≤ 17 ∧ r.1.fit) := by
  unfold leafF
  refine TQ.cond (fun _ => ?_) (fun _ => TQ.cond (fun _ => ?_) (fun _ => ?_))
  · refine TQ.bind (l1Some_tq 1 _ K h (by decide) (by simpa using hK)) (fun v hv => TQ.val ⟨by simpa using hv.1, ?_, core_fit (by decide) (by simp) hv.2.2 (by simp) trivial⟩)
    have := hv.2.1
    simp only [Core.w, Core.ws, List.length_nil]
    omega
  · exact TQ.bind (of_tq _ _ _ h (by omega) (by decide)) (fun w hw => TQ.val ⟨hw.1.mono (by omega), by simp [Core.w, Core.ws, Form.w, Form.ws], core_fit (nm_fit (by decide) hw.2) (by simp) (leaf_fit (by decide)) (by simp) trivial⟩)
  · exact TQ.bind (num_tq _ _ _ h (by omega) (by decide)) (fun w hw => TQ.val ⟨hw.1.mono (by omega), by simp [Core.w, Core.ws, Form.w, Form.ws], core_fit (by decide) (by simp) (leaf_fit (by decide)) (by simp) trivial⟩)
def leafV (x2 : List Int) (x4 : Int) (o1 : l15Rd) (fuel : Nat) : Option (Core × Int × l15Rd) :=
  (bif (decide (0 < (x2.length : Int))) then
 (m_spec_l15Rd_pick fuel o1 3).bind fun v3 =>
 (bif (decide (0 < v3.1)) then
 (m_spec_l15Rd_pick fuel v3.2 (x2.length : Int)).bind fun v5 =>
 (idx x2 v5.1).bind fun v6 =>
 some ((Core.mk 1 v6 (⟨#[]⟩ : ByteArray) 0 ([] : List Int) (Form.mk 0 (⟨#[]⟩ : ByteArray) 0 ([] : List Int) ([] : List Form)) ([] : List Core)), x4, v5.2)
 else
 (m_spec_l15Rd_pick fuel v3.2 4).bind fun v7 => leafF x4 v7 fuel)
 else
 (m_spec_l15Rd_pick fuel o1 4).bind fun v13 => leafF x4 v13 fuel)
theorem leafV_tq (x2 : List Int) (x4 : Int) (o : l15Rd) (K : Int) (h : OkRd o K) (hK : K + 20 ≤ 1000000000) : TQ (leafV x2 x4 o) (fun r => OkRd r.2.2 (K + 20) ∧ r.1.w ≤ 17 ∧ r.1.fit) := by
  unfold leafV
  refine TQ.cond (fun hc => ?_) (fun _ => ?_)
  · refine TQ.bind (pick_tq _ 3 _ h (by omega)) (fun v hv => ?_)
    refine TQ.cond (fun _ => ?_) (fun _ => ?_)
    · refine TQ.bind (pick_tq _ _ _ hv.1 (by omega)) (fun w hw => ?_)
      obtain ⟨h1, _, h2, _⟩ := hw
      obtain ⟨h2, h3⟩ := h2 (by simpa using hc)
      exact TQ.idx h2 h3 (fun x hx => TQ.val ⟨h1.mono (by omega), by simp [Core.w, Core.ws, Form.w, Form.ws], core_fit (by decide) (by simp) (leaf_fit (by decide)) (by simp) trivial⟩)
    · refine TQ.bind (pick_tq _ 4 _ hv.1 (by omega)) (fun w hw => ?_)
      exact (leafF_tq x4 w _ hw.1 (by omega)).mono (fun r hr => ⟨hr.1.mono (by omega), hr.2⟩)
  · refine TQ.bind (pick_tq _ 4 _ h (by omega)) (fun w hw => ?_)
    exact (leafF_tq x4 w _ hw.1 (by omega)).mono (fun r hr => ⟨hr.1.mono (by omega), hr.2⟩)
theorem l6Some_tq : ∀ (d : Nat) (o : l15Rd) (ids : List Int) (next : Int) (K : Int), OkRd o K → d ≤ 10 → ids.length + 2 * d ≤ 1000 → K + ((24 * 4 ^ d : Nat) : Int) ≤ 1000000000 → TQ (fun m => m_spec_l6Some m o ids (d : Int) next) (fun r => OkRd r.2.2 (K + ((24 * 4 ^ d : Nat) : Int)) ∧ r.1.w ≤ 24 * 4 ^ d ∧ r.1.fit) := by
  intro d
  induction d with
  | zero =>
    intro o ids next K h hd hids hK
    refine TQ.step (fun m => by rw [m_spec_l6Some]) ?_
    refine TQ.cond (fun hc => ?_) (fun hc => by simp at hc)
    exact (leafV_tq ids next o K h (by simp at hK; omega)).mono (fun r hr => ⟨hr.1.mono (by simp), by simp; omega, hr.2.2⟩)
  | succ d ih =>
    intro o ids next K h hd hids hK
    have p1 := pow4 d
    have p2 := pow4s d
    refine TQ.step (fun m => by rw [m_spec_l6Some]) ?_
    refine TQ.cond (fun hc => by exfalso; simp at hc; omega) (fun hc => ?_)
    refine TQ.bind (pick_tq o 4 K h (by omega)) (fun v hv => ?_)
    refine TQ.cond (fun _ => ?_) (fun _ => ?_)
    · exact (leafV_tq ids next v.2 _ hv.1 (by omega)).mono (fun r hr => ⟨hr.1.mono (by omega), by omega, hr.2.2⟩)
    have ed : w64 (((d + 1 : Nat) : Int) - 1) = (d : Int) := by rw [w64_in (by omega)]; omega
    have B0 : (0 : Int) ≤ ((24 * 4 ^ d : Nat) : Int) := by omega
    have mulS : ∀ j : Nat, ((j + 1 : Nat) : Int) * ((24 * 4 ^ d : Nat) : Int) = (j : Int) * ((24 * 4 ^ d : Nat) : Int) + ((24 * 4 ^ d : Nat) : Int) := fun j => by rw [Int.natCast_add, Int.add_mul]; simp
    have mulS' : ∀ j : Nat, (j + 1) * (1 + 24 * 4 ^ d) = j * (1 + 24 * 4 ^ d) + (1 + 24 * 4 ^ d) := fun j => by rw [Nat.add_mul]; omega
    have mul0 : ∀ j : Nat, 0 ≤ (j : Int) * ((24 * 4 ^ d : Nat) : Int) := fun j => Int.mul_nonneg (by omega) B0
    have mulL : ∀ j : Nat, j ≤ 3 → (j : Int) * ((24 * 4 ^ d : Nat) : Int) ≤ 3 * ((24 * 4 ^ d : Nat) : Int) := fun j hj => Int.mul_le_mul_of_nonneg_right (by omega) B0
    have mulL' : ∀ j : Nat, j ≤ 3 → j * (1 + 24 * 4 ^ d) ≤ 3 * (1 + 24 * 4 ^ d) := fun j hj => Nat.mul_le_mul_right _ hj
    refine TQ.bind (num_tq _ _ _ hv.1 (by omega) (by decide)) (fun v38 hv38 => ?_)
    obtain ⟨h38, hm38⟩ := hv38
    have hk38 : v38.1 ≠ 2 := by
      simp at hm38
      omega
    refine TQ.cond (fun _ => ?_) (fun _ => TQ.cond (fun _ => ?_) (fun _ => ?_))
    · -- a function
      have two : ∀ (g41 g46 : List Int) (g53 : Int) (b : List Int) (p : Int) (K' : Int), OkRd ⟨b, p⟩ K' → K' + ((24 * 4 ^ d : Nat) : Int) ≤ 1000000000 → g41.length + 2 * d ≤ 1000 → g46.length ≤ 3 →
          TQ (fun m => m_spec_l6Some_l2 m ((d + 1 : Nat) : Int) v38 g41 g46 g53 0 b p []) (fun r => OkRd r.2.2 (K' + ((24 * 4 ^ d : Nat) : Int)) ∧ r.1.w ≤ 6 + 24 * 4 ^ d ∧ r.1.fit) := by
        intro g41 g46 g53 b p K' hb hK' hg41 hg46
        refine TQ.step (fun m => by rw [m_spec_l6Some_l2, ed]) ?_
        refine TQ.cond (fun hc => ?_) (fun hc => by exfalso; simp at hc)
        refine TQ.bind (ih _ g41 g53 K' hb (by omega) hg41 hK') (fun v hv => ?_)
        refine TQ.chk (by simp) ?_
        refine TQ.step (fun m => by rw [m_spec_l6Some_l2]) ?_
        refine TQ.cond (fun hc => by exfalso; rw [w64_in (by omega)] at hc; simp at hc) (fun hc => TQ.val ⟨hv.1.mk', ?_, core_fit (by decide) (by omega) (leaf_fit (by decide)) (by simp) ⟨hv.2.2, trivial⟩⟩)
        have := hv.2.1
        simp only [Core.w, Core.ws, Form.w, Form.ws, List.length_nil, List.nil_append]
        omega
      refine TQ.bind (num_tq _ _ _ h38 (by omega) (by decide)) (fun v40 hv40 => ?_)
      obtain ⟨h40, hm40⟩ := hv40
      have one : ∀ (j : Nat) (g41 : List Int) (g42 : Int) (b : List Int) (p : Int) (g46 : List Int) (K' : Int), j ≤ 2 → OkRd ⟨b, p⟩ K' → K' + j + ((24 * 4 ^ d : Nat) : Int) ≤ 1000000000 → g41.length + j + 2 * d ≤ 1000 → g46.length + j ≤ 3 →
          TQ (fun m => m_spec_l6Some_l1 m ((d + 1 : Nat) : Int) v38 g41 g42 (j : Int) b p g46) (fun r => OkRd r.2.2 (K' + j + ((24 * 4 ^ d : Nat) : Int)) ∧ r.1.w ≤ 6 + 24 * 4 ^ d ∧ r.1.fit) := by
        intro j
        induction j with
        | zero =>
          intro g41 g42 b p g46 K' hj hb hK' h41 h46
          refine TQ.step (fun m => by rw [m_spec_l6Some_l1]) ?_
          refine TQ.cond (fun hc => by exfalso; simp at hc) (fun hc => ?_)
          exact (two g41 g46 g42 b p K' hb (by omega) (by omega) (by omega)).mono (fun r hr => ⟨hr.1.mono (by omega), hr.2⟩)
        | succ j ihj =>
          intro g41 g42 b p g46 K' hj hb hK' h41 h46
          refine TQ.step (fun m => by rw [m_spec_l6Some_l1]) ?_
          refine TQ.cond (fun hc => ?_) (fun hc => by exfalso; simp at hc; try omega)
          refine TQ.bind (num_tq _ _ _ hb (by omega) (by decide)) (fun v hv => ?_)
          refine TQ.chk (by simp; omega) (TQ.chk (by simp; omega) (TQ.chk (by simp; omega) ?_))
          have ew : w64 (((j + 1 : Nat) : Int) - 1) = (j : Int) := by rw [w64_in (by omega)]; omega
          rw [ew]
          exact (ihj _ _ _ _ _ _ (by omega) hv.1.mk' (by omega) (by simp; omega) (by simp; omega)).mono (fun r hr => ⟨hr.1.mono (by omega), hr.2⟩)
      have hj : v40.1 = ((1 : Nat) : Int) ∨ v40.1 = ((2 : Nat) : Int) ∨ v40.1 = ((0 : Nat) : Int) := by simpa using hm40
      rcases hj with e | e | e <;> rw [e]
      · exact (one 1 ids next _ _ [] _ (by omega) h40.mk' (by omega) (by omega) (by simp)).mono (fun r hr => ⟨hr.1.mono (by omega), by omega, hr.2.2⟩)
      · exact (one 2 ids next _ _ [] _ (by omega) h40.mk' (by omega) (by omega) (by simp)).mono (fun r hr => ⟨hr.1.mono (by omega), by omega, hr.2.2⟩)
      · exact (one 0 ids next _ _ [] _ (by omega) h40.mk' (by omega) (by omega) (by simp)).mono (fun r hr => ⟨hr.1.mono (by omega), by omega, hr.2.2⟩)
    · -- a call
      refine TQ.bind (num_tq _ _ _ h38 (by omega) (by decide)) (fun v63 hv63 => ?_)
      obtain ⟨h63, hm63⟩ := hv63
      have three : ∀ (N j : Nat) (g64 : Int) (b : List Int) (p : Int) (g68 : List Core) (K' : Int), v63.1 = ((N : Nat) : Int) → N ≤ 3 → j ≤ N → OkRd ⟨b, p⟩ K' → K' + (j : Int) * ((24 * 4 ^ d : Nat) : Int) ≤ 1000000000 → g68.length ≤ 3 - j → Core.fits g68 →
          TQ (fun m => m_spec_l6Some_l3 m ids ((d + 1 : Nat) : Int) v38 v63 g64 (((N - j : Nat)) : Int) b p g68) (fun r => OkRd r.2.2 (K' + (j : Int) * ((24 * 4 ^ d : Nat) : Int)) ∧ r.1.w ≤ 2 + Core.ws g68 + j * (1 + 24 * 4 ^ d) ∧ r.1.fit) := by
        intro N j
        induction j with
        | zero =>
          intro g64 b p g68 K' hN hN3 hj hb hK' hl hfl
          refine TQ.step (fun m => by rw [m_spec_l6Some_l3]) ?_
          refine TQ.cond (fun hc => by exfalso; rw [hN] at hc; simp at hc) (fun hc => TQ.val ⟨hb.mono (by simp), ?_, core_fit (by decide) (by simp) (leaf_fit (by decide)) (by omega) hfl⟩)
          simp only [Core.w, Form.w, Form.ws, List.length_nil]; omega
        | succ j ihj =>
          intro g64 b p g68 K' hN hN3 hj hb hK' hl hfl
          have m1 := mulS j
          have m2 := mulS' j
          have m3 := mul0 j
          refine TQ.step (fun m => by rw [m_spec_l6Some_l3, ed]) ?_
          refine TQ.cond (fun hc => ?_) (fun hc => by exfalso; rw [hN] at hc; simp at hc; omega)
          refine TQ.bind (ih _ ids g64 K' hb (by omega) (by omega) (by omega)) (fun v hv => ?_)
          refine TQ.chk (by simp; omega) ?_
          have ew : w64 (((N - (j + 1) : Nat) : Int) + 1) = ((N - j : Nat) : Int) := by rw [w64_in (by omega)]; omega
          rw [ew]
          refine (ihj _ _ _ _ _ hN hN3 (by omega) hv.1.mk' (by omega) (by simp; omega) (Core.fits_app hfl (core_one hv.2.2))).mono (fun r hr => ⟨hr.1.mono (by omega), ?_, hr.2.2⟩)
          have := hr.2.1
          rw [Core.ws_append] at this
          simp only [Core.ws] at this
          have hv2 := hv.2.1
          omega
      have hj : v63.1 = ((2 : Nat) : Int) ∨ v63.1 = ((1 : Nat) : Int) ∨ v63.1 = ((3 : Nat) : Int) := by simpa using hm63
      have fin : ∀ N : Nat, v63.1 = (N : Int) → N ≤ 3 → TQ (fun m => m_spec_l6Some_l3 m ids ((d + 1 : Nat) : Int) v38 v63 next 0 v63.2.b v63.2.p []) (fun r => OkRd r.2.2 (K + ((24 * 4 ^ (d + 1) : Nat) : Int)) ∧ r.1.w ≤ 24 * 4 ^ (d + 1) ∧ r.1.fit) := by
        intro N hN hN3
        have m1 := mulL N hN3
        have m2 := mulL' N hN3
        have := three N N next v63.2.b v63.2.p [] _ hN hN3 (Nat.le_refl _) h63.mk' (by omega) (by simp) trivial
        rw [Nat.sub_self] at this
        refine this.mono (fun r hr => ⟨hr.1.mono (by omega), ?_, hr.2.2⟩)
        have := hr.2.1
        simp only [Core.ws] at this
        omega
      rcases hj with e | e | e
      · exact fin 2 e (by omega)
      · exact fin 1 e (by omega)
      · exact fin 3 e (by omega)
    · -- a choice
      have four : ∀ (j : Nat) (g73 : Int) (b : List Int) (p : Int) (g77 : List Core) (K' : Int), j ≤ 3 → OkRd ⟨b, p⟩ K' → K' + (j : Int) * ((24 * 4 ^ d : Nat) : Int) ≤ 1000000000 → g77.length ≤ 3 - j → Core.fits g77 →
          TQ (fun m => m_spec_l6Some_l4 m ids ((d + 1 : Nat) : Int) v38 g73 (((3 - j : Nat)) : Int) b p g77) (fun r => OkRd r.2.2 (K' + (j : Int) * ((24 * 4 ^ d : Nat) : Int)) ∧ r.1.w ≤ 2 + Core.ws g77 + j * (1 + 24 * 4 ^ d) ∧ r.1.fit) := by
        intro j
        induction j with
        | zero =>
          intro g73 b p g77 K' hj hb hK' hl hfl
          refine TQ.step (fun m => by rw [m_spec_l6Some_l4]) ?_
          refine TQ.cond (fun hc => by exfalso; simp at hc) (fun hc => TQ.val ⟨hb.mono (by simp), ?_, core_fit (by decide) (by simp) (leaf_fit (by decide)) (by omega) hfl⟩)
          simp only [Core.w, Form.w, Form.ws, List.length_nil]; omega
        | succ j ihj =>
          intro g73 b p g77 K' hj hb hK' hl hfl
          have m1 := mulS j
          have m2 := mulS' j
          have m3 := mul0 j
          refine TQ.step (fun m => by rw [m_spec_l6Some_l4, ed]) ?_
          refine TQ.cond (fun hc => ?_) (fun hc => by exfalso; simp at hc; try omega)
          refine TQ.bind (ih _ ids g73 K' hb (by omega) (by omega) (by omega)) (fun v hv => ?_)
          refine TQ.chk (by simp; omega) ?_
          have ew : w64 (((3 - (j + 1) : Nat) : Int) + 1) = ((3 - j : Nat) : Int) := by rw [w64_in (by omega)]; omega
          rw [ew]
          refine (ihj _ _ _ _ _ (by omega) hv.1.mk' (by omega) (by simp; omega) (Core.fits_app hfl (core_one hv.2.2))).mono (fun r hr => ⟨hr.1.mono (by omega), ?_, hr.2.2⟩)
          have := hr.2.1
          rw [Core.ws_append] at this
          simp only [Core.ws] at this
          have hv2 := hv.2.1
          omega
      have m1 := mulL 3 (by omega)
      have m2 := mulL' 3 (by omega)
      refine (four 3 next v38.2.b v38.2.p [] _ (by omega) h38.mk' (by omega) (by simp) trivial).mono (fun r hr => ⟨hr.1.mono (by omega), ?_, hr.2.2⟩)
      have := hr.2.1
      simp only [Core.ws] at this
      omega
theorem Core.ws_set : ∀ (l : List Core) (i : Nat) (x : Core) (B : Nat), (∀ y, l[i]? = some y → x.w ≤ y.w + B) → Core.ws (l.set i x) ≤ Core.ws l + B
  | [], i, x, B, _ => by simp [Core.ws]
  | y :: l, 0, x, B, h => by
    have := h y rfl
    rw [List.set_cons_zero, Core.ws, Core.ws]; omega
  | y :: l, i + 1, x, B, h => by
    have := Core.ws_set l i x B (fun z hz => h z (by simpa using hz))
    rw [List.set_cons_succ, Core.ws, Core.ws]; omega
def mutL (v1 : Core) (o1 : l15Rd) (fuel : Nat) : Option (Core × l15Rd) :=
 (m_spec_l15Rd_pick fuel o1 12).bind fun v9 =>
 (bif (decide (v9.1 = 0)) then
 (m_spec_l15Rd_num fuel v9.2 [0, 8, 3, 6]).bind fun v11 =>
 some ((Core.mk v11.1 v1.id v1.name v1.n v1.ids v1.data v1.kids), v11.2)
 else
 (bif (decide (v9.1 = 1)) then
 (m_spec_l15Rd_num fuel v9.2 [0, 1, 1000, 2]).bind fun v13 =>
 some ((Core.mk v1.kind v13.1 v1.name v1.n v1.ids v1.data v1.kids), v13.2)
 else
 (bif (decide (v9.1 = 2)) then
 (m_spec_l15Rd_num fuel v9.2 [1, 900, 0]).bind fun v15 =>
 chk (decide ((v1.ids.length + [v15.1].length) * 8 ≤ 140737488355328)) <|
 some ((Core.mk v1.kind v1.id v1.name v1.n (v1.ids ++ [v15.1]) v1.data v1.kids), v15.2)
 else
 (bif (decide (v9.1 = 3)) then
 (m_spec_l15Rd_of fuel v9.2 [(⟨#[]⟩ : ByteArray), (⟨#[103]⟩ : ByteArray), (⟨#[65]⟩ : ByteArray)]).bind fun v18 =>
 some ((Core.mk v1.kind v1.id v18.1 v1.n v1.ids v1.data v1.kids), v18.2)
 else
 some (v1, v9.2)))))
theorem mutL_tq (v1 : Core) (o : l15Rd) (K : Int) (h : OkRd o K) (hK : K + 2 ≤ 1000000000) (hw : v1.w ≤ 2 ^ 36) : TQ (mutL v1 o) (fun r => OkRd r.2 (K + 2) ∧ r.1.w ≤ v1.w + 1 ∧ (v1.fit → r.1.fit)) := by
  have hk := v1.w_kids
  unfold mutL
  refine TQ.bind (pick_tq o 12 _ h (by omega)) (fun v hv => ?_)
  refine TQ.cond (fun _ => ?_) (fun _ => TQ.cond (fun _ => ?_) (fun _ => TQ.cond (fun _ => ?_) (fun _ => TQ.cond (fun _ => ?_) (fun _ => ?_))))
  · exact TQ.bind (num_tq _ _ _ hv.1 (by omega) (by decide)) (fun w hw => TQ.val ⟨hw.1.mono (by omega), by simp only [Core.w]; omega, fun hL => by obtain ⟨f1, f2, f3, f4, f5⟩ := hL.parts; exact core_fit f1 f2 f3 f4 f5⟩)
  · exact TQ.bind (num_tq _ _ _ hv.1 (by omega) (by decide)) (fun w hw => TQ.val ⟨hw.1.mono (by omega), by simp only [Core.w]; omega, fun hL => by obtain ⟨f1, f2, f3, f4, f5⟩ := hL.parts; exact core_fit f1 f2 f3 f4 f5⟩)
  · exact TQ.bind (num_tq _ _ _ hv.1 (by omega) (by decide)) (fun w hw => TQ.chk (by simp; omega) (TQ.val ⟨hw.1.mono (by omega), by simp only [Core.w, List.length_append, List.length_cons, List.length_nil]; omega, fun hL => by obtain ⟨f1, f2, f3, f4, f5⟩ := hL.parts; exact core_fit f1 (by simp; omega) f3 f4 f5⟩))
  · exact TQ.bind (of_tq _ _ _ hv.1 (by omega) (by decide)) (fun w hw => TQ.val ⟨hw.1.mono (by omega), by simp only [Core.w]; omega, fun hL => by obtain ⟨f1, f2, f3, f4, f5⟩ := hL.parts; exact core_fit (nm_fit (by decide) hw.2) f2 f3 f4 f5⟩)
  · exact TQ.val ⟨hv.1.mono (by omega), Nat.le_succ _, fun hL => hL⟩
theorem l6Mutate_tq : ∀ (n : Nat) (c : Core) (o : l15Rd) (K : Int), c.w ≤ n → OkRd o K → c.w ≤ 2 ^ 30 → K + 3 * c.w ≤ 100000000000 → K + 3 * c.w ≤ 1000000000 → TQ (fun m => m_spec_l6Mutate m o c) (fun r => OkRd r.2 (K + 3 * c.w) ∧ r.1.w ≤ c.w + 1 ∧ (c.fit → r.1.fit)) := by
  intro n
  induction n with
  | zero => intro c o K h; have := c.w_kids; omega
  | succ n ih =>
    intro c o K h ho hb hK hK2
    have hw := c.w_kids
    refine TQ.step (fun m => by rw [m_spec_l6Mutate]) ?_
    refine TQ.ev (l6Copy_tr _ c (Nat.le_refl _) (by omega)) ?_
    refine TQ.cond (fun hc => ?_) (fun _ => ?_)
    · have hpos : 0 < c.kids.length := by simpa using hc
      have hl := Core.ws_len c.kids
      refine TQ.bind (pick_tq o 2 _ ho (by omega)) (fun v hv => ?_)
      refine TQ.cond (fun _ => ?_) (fun _ => ?_)
      · refine TQ.bind (pick_tq _ _ _ hv.1 (by omega)) (fun w hw2 => ?_)
        obtain ⟨h1, _, h2, _⟩ := hw2
        obtain ⟨h2, h3⟩ := h2 (by omega)
        obtain ⟨x, hx, hm⟩ := idx_int h2 h3
        have hxw := Core.ws_mem hm
        have hx2 := (idx_some hx).2.2
        obtain ⟨r, hr, q1, q2, q3⟩ := ih x w.2 _ (by omega) h1 (by omega) (by omega) (by omega)
        refine ⟨_, Tr.idx hx (Tr.bind hr (Tr.idx hx Tr.val)), q1.mono (by omega), ?_, fun hL => by obtain ⟨f1, f2, f3, f4, f5⟩ := hL.parts; exact core_fit f1 f2 f3 (by rw [List.length_set]; exact f4) (Core.fits_set _ _ _ f5 (q3 (Core.fits_mem f5 hm)))⟩
        have := Core.ws_set c.kids w.1.toNat r.1 1 (fun y hy => by rw [hx2] at hy; cases hy; exact q2)
        simp only [Core.w]; omega
      · exact (mutL_tq c _ _ hv.1 (by omega) (by omega)).mono (fun r hr => ⟨hr.1.mono (by omega), hr.2⟩)
    · exact (mutL_tq c _ _ ho (by omega) (by omega)).mono (fun r hr => ⟨hr.1.mono (by omega), hr.2⟩)
theorem l6Draw_tq (code : List Int) (h : ∀ x ∈ code, 0 ≤ x ∧ x < 256) : TQ (fun m => m_spec_l6Draw m code) (fun c => c.w ≤ 2 ^ 20 ∧ c.fit) := by
  refine TQ.eq (fun m => by unfold m_spec_l6Draw; rfl) ?_
  refine TQ.bind (open_tq code h) (fun o ho => ?_)
  refine TQ.bind (num_tq _ _ _ ho (by omega) (by decide)) (fun v hv => ?_)
  obtain ⟨h1, hm⟩ := hv
  have hd : ∃ d : Nat, v.1 = (d : Int) ∧ d ≤ 4 := by
    have : v.1 = 3 ∨ v.1 = 4 ∨ v.1 = 2 := by simpa using hm
    rcases this with e | e | e
    · exact ⟨3, e, by omega⟩
    · exact ⟨4, e, by omega⟩
    · exact ⟨2, e, by omega⟩
  obtain ⟨d, hd, hd4⟩ := hd
  rw [hd]
  have hp : 4 ^ d ≤ 4 ^ 4 := Nat.pow_le_pow_right (by decide) hd4
  have e4 : (4 : Nat) ^ 4 = 256 := rfl
  refine TQ.bind (l6Some_tq d v.2 [] 0 _ h1 (by omega) (by simp; omega) (by omega)) (fun w hw => ?_)
  obtain ⟨h2, hw, hL⟩ := hw
  refine TQ.bind (pick_tq _ 8 _ h2 (by omega)) (fun u hu => ?_)
  refine TQ.cond (fun _ => ?_) (fun _ => TQ.val ⟨by omega, hL⟩)
  refine TQ.bind (l6Mutate_tq _ w.1 u.2 _ (Nat.le_refl _) hu.1 (by omega) (by omega) (by omega)) (fun y hy => ?_)
  refine TQ.bind (l6Mutate_tq _ y.1 y.2 _ (Nat.le_refl _) hy.1 (by omega) (by omega) (by omega)) (fun z hz => ?_)
  exact TQ.val ⟨by omega, hz.2.2 (hy.2.2 hL)⟩
end Go.Abs
end
section
set_option linter.unusedVariables false
set_option linter.unusedSimpArgs false
set_option maxHeartbeats 4000000
namespace Go.Abs
structure AInv (m : Int → Option Int) (l r : List Int) : Prop where
  len : l.length = r.length
  nl : l.Nodup
  nr : r.Nodup
  at_ : ∀ (i : Nat) (x : Int), l[i]? = some x → m x = r[i]?
theorem AInv.nil : AInv map0 [] [] := ⟨rfl, List.nodup_nil, List.nodup_nil, fun i x h => by simp at h⟩
theorem AInv.get {m : Int → Option Int} {l r : List Int} (h : AInv m l r) {x : Int} (hx : x ∈ l) : ∃ (i : Nat) (y : Int), l[i]? = some x ∧ r[i]? = some y ∧ mapGet m x = y := by
  obtain ⟨i, hi⟩ := List.mem_iff_getElem?.1 hx
  have hl := (List.getElem?_eq_some_iff.1 hi).1
  have hr : r[i]? = some (r[i]'(by have := h.len; omega)) := List.getElem?_eq_getElem _
  refine ⟨i, _, hi, hr, ?_⟩
  unfold mapGet; rw [h.at_ i x hi, hr]; rfl
theorem isOk_parts {c : Core} {ar : List Int} {d : Nat} (h : c.isOk ar d = true) : c.okF ar = true ∧ ∀ x ∈ c.kids, x.isOk (ar ++ c.ids) (d - 1) = true := by
  rw [Core.isOk_eq] at h
  by_cases hd : d = 0
  · rw [decide_eq_true hd] at h; cases h
  rw [decide_eq_false hd, cond_false, Bool.and_eq_true] at h
  exact ⟨h.1, alls_iff.1 h.2⟩
end Go.Abs
end
section
set_option linter.unusedVariables false
set_option linter.unusedSimpArgs false
set_option maxHeartbeats 4000000
namespace Go.Abs
mutual
def Core.dep : Core → Nat
  | .mk _ _ _ _ _ _ kids => Core.deps kids + 1
def Core.deps : List Core → Nat
  | [] => 0
  | x :: xs => max x.dep (Core.deps xs)
end
end Go.Abs
end
section
set_option linter.unusedVariables false
set_option linter.unusedSimpArgs false
set_option maxHeartbeats 2000000
namespace Go.Abs
open Go.Lib (itoa join joinTail decDigits nDigits)
def mkB (l : List UInt8) : ByteArray := ⟨l.toArray⟩
theorem mkB_list (l : List UInt8) : (mkB l).data.toList = l := by unfold mkB; simp
theorem mkB_size (l : List UInt8) : (mkB l).size = l.length := by rw [sz_list, mkB_list]
theorem mkB_of (s : ByteArray) : mkB s.data.toList = s := by unfold mkB; simp
theorem mkB_inj {a b : List UInt8} (h : mkB a = mkB b) : a = b := by rw [← mkB_list a, h, mkB_list]
theorem bcat_mk {a b : List UInt8} (h : a.length + b.length ≤ 2 ^ 60) : bcat (mkB a) (mkB b) = some (mkB (a ++ b)) := by
  unfold bcat
  rw [mkB_size, mkB_size, decide_eq_true (by omega), cond_true]
  refine congrArg some (ByteArray.ext ?_)
  rw [ByteArray.data_append]
  unfold mkB
  simp
theorem Tr.cat {γ : Type} {x y : ByteArray} {a b : List UInt8} {g : ByteArray → Nat → Option γ} {w : γ} (hx : x = mkB a) (hy : y = mkB b) (hl : a.length + b.length ≤ 2 ^ 60) (h : Tr (fun m => g (mkB (a ++ b)) m) w) : Tr (fun m => (bcat x y).bind fun v => g v m) w := by
  subst hx; subst hy
  exact Tr.eq (fun m => by rw [bcat_mk hl, Option.bind_some]) h
theorem nDig_le {n k : Nat} (h : n < 10 ^ (k + 1)) : nDigits n ≤ k + 1 := by
  induction k generalizing n with
  | zero => rw [Lib.nDigits_small (by simpa using h)]; omega
  | succ k ih =>
    by_cases h1 : n < 10
    · rw [Lib.nDigits_small h1]; omega
    · rw [Lib.nDigits_big h1]
      have := @ih (n / 10) (by rw [Nat.pow_succ] at h; omega)
      omega
theorem itoa_nat (n : Nat) : itoa (n : Int) = decDigits n := by unfold Lib.itoa; rw [if_neg (by omega), Int.toNat_natCast]
theorem itoa_len {n : Int} (h0 : 0 ≤ n) (h : n ≤ 999) : (itoa n).length ≤ 3 := by
  obtain ⟨k, rfl⟩ := Int.eq_ofNat_of_zero_le h0
  rw [itoa_nat, Lib.decDigits_length]
  exact nDig_le (k := 2) (by omega)
theorem itoa_tr {n : Int} (h0 : 0 ≤ n) (h : n ≤ 999) : Tr (fun m => m_strconv_Itoa m n) (mkB (itoa n)) :=
  Tr.eq (fun m => by unfold m_strconv_Itoa; rfl) (Tr.chk (decide_eq_true (by omega)) (Tr.chk (decide_eq_true (by omega)) Tr.val))
theorem dig_str {k : Nat} (h : k < 10) : strOf [w8 (w64 (48 + (k : Int)))] = mkB [UInt8.ofNat (48 + k)] := by
  have : k = 0 ∨ k = 1 ∨ k = 2 ∨ k = 3 ∨ k = 4 ∨ k = 5 ∨ k = 6 ∨ k = 7 ∨ k = 8 ∨ k = 9 := by omega
  rcases this with rfl | rfl | rfl | rfl | rfl | rfl | rfl | rfl | rfl | rfl <;> rfl
theorem dec_loop : ∀ (n : Nat) (acc : List UInt8), n ≤ 2 ^ 40 → acc.length + n ≤ 2 ^ 50 → Tr (fun m => m_spec_l15Dec_l1 m (n : Int) (mkB acc)) (mkB (decDigits n ++ acc)) := by
  intro n
  induction n using Nat.strongRecOn with
  | _ n ih =>
    intro acc hn hl
    refine Tr.step (fun m => by rw [m_spec_l15Dec_l1]) ?_
    by_cases h : n < 10
    · refine Tr.ff (decide_eq_false (by omega)) ?_
      rw [dig_str h, Lib.decDigits_one h]
      exact Tr.cat rfl rfl (by simp; omega) Tr.val
    · refine Tr.tt (decide_eq_true (by omega)) ?_
      have e1 : (n : Int).tmod 10 = ((n % 10 : Nat) : Int) := by rw [Int.tmod_eq_emod_of_nonneg (by omega)]; omega
      have e2 : (n : Int).tdiv 10 = ((n / 10 : Nat) : Int) := by rw [Int.tdiv_eq_ediv_of_nonneg (by omega)]; omega
      rw [e1, e2, dig_str (by omega)]
      refine Tr.cat rfl rfl (by simp; omega) ?_
      have := ih (n / 10) (by omega) ([UInt8.ofNat (48 + n % 10)] ++ acc) (by omega) (by simp; omega)
      rw [Lib.decDigits, dif_neg h, List.append_assoc]
      exact Tr.eq (fun m => by rw [w64_in (by omega)]) this
theorem dec_tr {n : Int} (h0 : 0 ≤ n) (h : n ≤ 999) : Tr (fun m => m_spec_l15Dec m n) (mkB (itoa n)) := by
  obtain ⟨k, rfl⟩ := Int.eq_ofNat_of_zero_le h0
  have := dec_loop k [] (by omega) (by simp; omega)
  rw [List.append_nil, ← itoa_nat] at this
  refine Tr.step (fun m => by rw [m_spec_l15Dec]) ?_
  refine Tr.ff (decide_eq_false (by omega)) ?_
  exact Tr.ff (decide_eq_false (by omega)) this
theorem join_len : ∀ (xs : List (List UInt8)) (sep : List UInt8), (join xs sep).length ≤ Lib.lens xs + xs.length * sep.length
  | [], sep => by simp [Lib.join_nil]
  | x :: r, sep => by
    rw [Lib.join_cons, List.length_append]
    have : ∀ r : List (List UInt8), (joinTail sep r).length = Lib.lens r + r.length * sep.length := by
      intro r
      induction r with
      | nil => simp [joinTail, Lib.lens]
      | cons y r ih =>
        have e : joinTail sep (y :: r) = sep ++ y ++ joinTail sep r := by simp [joinTail]
        rw [e, List.length_append, List.length_append, ih]
        simp only [Lib.lens, List.map_cons, List.sum_cons, List.length_cons]
        rw [Nat.succ_mul]; omega
    rw [this]
    simp only [Lib.lens, List.map_cons, List.sum_cons, List.length_cons]
    rw [Nat.succ_mul]; omega
theorem jt_cons (sep y : List UInt8) (r : List (List UInt8)) : joinTail sep (y :: r) = sep ++ y ++ joinTail sep r := by simp [joinTail]
theorem lens_cons (x : List UInt8) (r : List (List UInt8)) : Lib.lens (x :: r) = x.length + Lib.lens r := by simp [Lib.lens]
theorem join_tr {xs : List (List UInt8)} {sep : List UInt8} (h1 : xs.length ≤ 2 ^ 40) (h2 : Lib.lens xs + xs.length * sep.length ≤ 2 ^ 40) : Tr (fun m => m_strings_Join m (xs.map mkB) (mkB sep)) (mkB (join xs sep)) := by
  have e : ((xs.map mkB).map fun s => s.data.toList) = xs := by
    rw [List.map_map]
    conv => rhs; rw [← List.map_id xs]
    exact List.map_congr_left (fun x _ => mkB_list x)
  have := join_len xs sep
  refine Tr.eq (fun m => by unfold m_strings_Join; rw [e, mkB_list]) ?_
  exact Tr.chk (decide_eq_true (by rw [List.length_map]; omega)) (Tr.chk (decide_eq_true (by omega)) Tr.val)
def scTx (sc : List Int) : List UInt8 := bif decide (sc.length = 0) then [] else [123] ++ join (sc.map itoa) [44] ++ [125]
mutual
def Form.tx : Form → List UInt8
  | .mk k nm n sc kids => bif decide (k = 1) then nm.data.toList ++ scTx sc else bif decide (k = 2) then itoa n else [40] ++ join (Form.txs kids) [32] ++ [41]
def Form.txs : List Form → List (List UInt8)
  | [] => []
  | f :: fs => f.tx :: Form.txs fs
end
theorem Form.txs_eq : ∀ l : List Form, Form.txs l = l.map Form.tx
  | [] => rfl
  | f :: fs => by rw [Form.txs, Form.txs_eq fs]; rfl
theorem Form.tx_eq (f : Form) : f.tx = bif decide (f.kind = 1) then f.name.data.toList ++ scTx f.scopes else bif decide (f.kind = 2) then itoa f.n else [40] ++ join (f.kids.map Form.tx) [32] ++ [41] := by
  obtain ⟨a, b, c, d, e⟩ := f; rw [Form.tx, Form.txs_eq]; rfl
theorem nmOk_size {s : ByteArray} (h : nmOk s = true) : s.size ≤ 12 := by
  unfold nmOk at h
  rw [Bool.or_eq_true, Bool.or_eq_true, decide_eq_true_eq, decide_eq_true_eq, Bool.and_eq_true] at h
  rcases h with rfl | rfl | h
  · decide
  · decide
  · have := h.2
    unfold nmSz at this
    rw [Bool.and_eq_true, decide_eq_true_eq, decide_eq_true_eq] at this
    omega
theorem isOk_form {f : Form} {d : Nat} (h : f.isOk d = true) : (f.kind = 1 ∧ nmOk f.name = true ∧ scOk f.scopes = true) ∨ (f.kind = 2 ∧ 0 ≤ f.n ∧ f.n ≤ 999) ∨ (f.kind = 3 ∧ f.scopes = []) := by
  rw [Form.isOk_eq] at h
  cases hd : decide (d = 0) with
  | true => rw [hd] at h; cases h
  | false =>
  rw [hd, cond_false] at h
  by_cases h1 : f.kind = 1
  · rw [decide_eq_true h1, cond_true] at h
    simp only [Bool.and_eq_true] at h
    exact .inl ⟨h1, h.1, h.2.2.1⟩
  · rw [decide_eq_false h1, cond_false] at h
    by_cases h2 : f.kind = 2
    · rw [decide_eq_true h2, cond_true] at h
      simp only [Bool.and_eq_true, decide_eq_true_eq] at h
      exact .inr (.inl ⟨h2, h.2.1.1, h.2.1.2⟩)
    · rw [decide_eq_false h2, cond_false] at h
      simp only [Bool.and_eq_true, decide_eq_true_eq] at h
      exact .inr (.inr ⟨h.1, List.length_eq_zero_iff.1 (by omega)⟩)
theorem scF_all : ∀ {l : List Int} {p : Option Int}, scF p l = true → ∀ x ∈ l, 1 ≤ x ∧ x ≤ 99
  | [], p, h, x, hx => by cases hx
  | y :: l, p, h, x, hx => by
    rw [scF] at h
    simp only [Bool.and_eq_true, decide_eq_true_eq] at h
    rcases List.mem_cons.1 hx with rfl | hx
    · exact h.1
    · exact scF_all h.2.2 x hx
theorem scOk_all {l : List Int} (h : scOk l = true) : (∀ x ∈ l, 1 ≤ x ∧ x ≤ 99) ∧ l.length ≤ 24 := by
  unfold scOk at h
  rw [Bool.and_eq_true, decide_eq_true_eq] at h
  exact ⟨scF_all h.1, by omega⟩
theorem lens_itoa : ∀ {l : List Int}, (∀ x ∈ l, 1 ≤ x ∧ x ≤ 999) → Lib.lens (l.map itoa) ≤ 3 * l.length
  | [], _ => by simp [Lib.lens]
  | x :: l, h => by
    have h1 := lens_itoa (l := l) (fun y hy => h y (by simp [hy]))
    have h2 := itoa_len (n := x) (by have := h x (by simp); omega) (by have := h x (by simp); omega)
    rw [List.map_cons, lens_cons, List.length_cons]; omega
theorem scTx_len {l : List Int} (h : scOk l = true) : (scTx l).length ≤ 2 + 4 * l.length := by
  obtain ⟨h1, h2⟩ := scOk_all h
  unfold scTx
  cases decide (l.length = 0) with
  | true => simp
  | false =>
    have a := join_len (l.map itoa) [44]
    have b := lens_itoa (l := l) (fun x hx => by have := h1 x hx; omega)
    simp only [List.length_map, List.length_singleton] at a
    rw [cond_false]; simp only [List.length_append, List.length_singleton]; omega
theorem tx_len : ∀ (n : Nat) (f : Form) (d : Nat), f.w ≤ n → f.isOk d = true → f.tx.length ≤ 16 * f.w := by
  intro n
  induction n with
  | zero => intro f d h; have := f.w_kids; omega
  | succ n ih =>
    intro f d h hok
    have hw := f.w_kids
    rw [Form.tx_eq]
    rcases isOk_form hok with ⟨h1, h2, h3⟩ | ⟨h1, h2, h3⟩ | ⟨h1, h2⟩
    · have a := nmOk_size h2
      have b := scTx_len h3
      rw [sz_list] at a
      rw [decide_eq_true h1, cond_true, List.length_append]; omega
    · have a := itoa_len h2 h3
      rw [decide_eq_false (by omega), cond_false, decide_eq_true h1, cond_true]; omega
    · have hk := (isOk_kids hok).2
      have key : ∀ l : List Form, (∀ x ∈ l, x ∈ f.kids) → Lib.lens (l.map Form.tx) + l.length ≤ 16 * Form.ws l := by
        intro l
        induction l with
        | nil => intro _; simp [Lib.lens, Form.ws]
        | cons x l ihl =>
          intro hx
          have a := ihl (fun y hy => hx y (by simp [hy]))
          have hm := Form.ws_mem (hx x (by simp))
          have b := ih x (d - 1) (by omega) (hk x (hx x (by simp)))
          rw [List.map_cons, lens_cons, Form.ws, List.length_cons]; omega
      have a := join_len (f.kids.map Form.tx) [32]
      have b := key f.kids (fun x hx => hx)
      simp only [List.length_map, List.length_singleton] at a
      rw [decide_eq_false (by omega), cond_false, decide_eq_false (by omega), cond_false]
      simp only [List.length_append, List.length_singleton]; omega
theorem loop_txt {α γ : Type} {xs : List α} {f : α → List UInt8} {L : Nat → List ByteArray → Int → Option γ} {E : Nat → α → Option ByteArray} {F : Nat → List ByteArray → Option γ} {w : γ}
    (h0 : ∀ m acc k, L (m + 1) acc k = bif decide (k < (xs.length : Int)) then (idx xs k).bind fun a => (E m a).bind fun v => chk (decide ((acc.length + [v].length) * 16 ≤ 140737488355328)) (L m (acc ++ [v]) (k + 1)) else F m acc)
    (hE : ∀ a ∈ xs, Tr (fun m => E m a) (mkB (f a))) (hb : xs.length ≤ 2 ^ 40) (hF : Tr (fun m => F m ((xs.map f).map mkB)) w) : Tr (fun m => L m [] 0) w := by
  have key := drop_ind xs (fun k zs => ∀ acc : List (List UInt8), acc.length = k → acc ++ zs.map f = xs.map f → Tr (fun m => L m (acc.map mkB) (k : Int)) w) ?_ ?_ 0 (Nat.zero_le _) [] rfl (by simp)
  · exact key
  · intro acc _ hacc
    rw [List.map_nil, List.append_nil] at hacc
    refine Tr.step (fun m => by rw [h0, ltN_self, cond_false]) ?_
    rw [hacc]; exact hF
  · intro k x zs hk hx hd ih acc hl hacc
    refine Tr.step (fun m => by rw [h0, ltN hk, cond_true, idx_nat hx, Option.bind_some, succN]) ?_
    refine Tr.bind (hE x (List.mem_of_getElem? hx)) (Tr.chk (decide_eq_true (by simp; omega)) ?_)
    have := ih (acc ++ [f x]) (by simp [hl]) (by rw [List.append_assoc]; exact hacc)
    rw [List.map_append] at this
    exact this
theorem implText_n : ∀ (n : Nat) (f : Form) (d : Nat), f.w ≤ n → f.w ≤ 2 ^ 30 → f.isOk d = true → Tr (fun m => m_impl_formText m f) (mkB f.tx) := by
  intro n
  induction n with
  | zero => intro f d h; have := f.w_kids; omega
  | succ n ih =>
    intro f d h hb hok
    have hw := f.w_kids
    refine Tr.step (fun m => by rw [m_impl_formText]) ?_
    rw [Form.tx_eq]
    rcases isOk_form hok with ⟨h1, h2, h3⟩ | ⟨h1, h2, h3⟩ | ⟨h1, h2⟩
    · refine Tr.tt (decide_eq_true h1) ?_
      rw [decide_eq_true h1, cond_true]
      obtain ⟨s1, s2⟩ := scOk_all h3
      unfold scTx
      by_cases h0 : f.scopes.length = 0
      · rw [decide_eq_true h0, cond_true, List.append_nil, mkB_of]
        exact Tr.tt (decide_eq_true (by omega)) Tr.val
      · rw [decide_eq_false h0, cond_false]
        refine Tr.ff (decide_eq_false (by omega)) ?_
        refine loop_txt (xs := f.scopes) (f := itoa) (L := fun m g k => m_impl_formText_l2 m f g k) (E := fun m a => m_strconv_Itoa m a) (F := fun m g => m_impl_formText_j1 m f g) (fun m g k => by rw [m_impl_formText_l2]) (fun a ha => itoa_tr (by have := s1 a ha; omega) (by have := s1 a ha; omega)) (by omega) ?_
        have b := lens_itoa (l := f.scopes) (fun x hx => by have := s1 x hx; omega)
        have a := join_len (f.scopes.map itoa) [44]
        simp only [List.length_map, List.length_singleton] at a
        have hn := nmOk_size h2
        rw [sz_list] at hn
        refine Tr.step (fun m => by rw [m_impl_formText_j1]) ?_
        refine Tr.cat (a := f.name.data.toList) (b := [123]) (mkB_of _).symm rfl (by simp only [List.length_append, List.length_singleton]; omega) ?_
        refine Tr.bind (join_tr (xs := f.scopes.map itoa) (sep := [44]) (by rw [List.length_map]; omega) (by simp only [List.length_map, List.length_singleton]; omega)) ?_
        refine Tr.cat rfl rfl (by simp only [List.length_append, List.length_singleton]; omega) ?_
        refine Tr.cat (b := [125]) rfl rfl (by simp only [List.length_append, List.length_singleton]; omega) ?_
        rw [show f.name.data.toList ++ ([123] ++ join (f.scopes.map itoa) [44] ++ [125]) = f.name.data.toList ++ [123] ++ join (f.scopes.map itoa) [44] ++ [125] by simp]
        exact Tr.val
    · refine Tr.ff (decide_eq_false (by omega)) (Tr.tt (decide_eq_true h1) ?_)
      rw [decide_eq_false (show ¬ f.kind = 1 by omega), cond_false, decide_eq_true h1, cond_true]
      exact Tr.bind (itoa_tr h2 h3) Tr.val
    · refine Tr.ff (decide_eq_false (by omega)) (Tr.ff (decide_eq_false (by omega)) ?_)
      rw [decide_eq_false (show ¬ f.kind = 1 by omega), cond_false, decide_eq_false (show ¬ f.kind = 2 by omega), cond_false]
      have hk := (isOk_kids hok).2
      have hl := Form.ws_len f.kids
      have hj : ∀ l : List Form, (∀ x ∈ l, x ∈ f.kids) → Lib.lens (l.map Form.tx) ≤ 16 * Form.ws l := by
        intro l
        induction l with
        | nil => intro _; simp [Lib.lens]
        | cons x l ihl =>
          intro hx
          have a := ihl (fun y hy => hx y (by simp [hy]))
          have b := tx_len _ x (d - 1) (Nat.le_refl _) (hk x (hx x (by simp)))
          rw [List.map_cons, lens_cons, Form.ws]; omega
      have hjj := hj f.kids (fun x hx => hx)
      have a := join_len (f.kids.map Form.tx) [32]
      simp only [List.length_map, List.length_singleton] at a
      refine loop_txt (xs := f.kids) (f := Form.tx) (L := fun m g k => m_impl_formText_l3 m f g k) (E := fun m a => m_impl_formText m a) (F := fun m g => (m_strings_Join m g (⟨#[32]⟩ : ByteArray)).bind fun v27 => (bcat (⟨#[40]⟩ : ByteArray) v27).bind fun v28 => (bcat v28 (⟨#[41]⟩ : ByteArray)).bind fun v29 => some v29) (fun m g k => by rw [m_impl_formText_l3]) (fun x hx => ih x (d - 1) (by have := Form.ws_mem hx; omega) (by have := Form.ws_mem hx; omega) (hk x hx)) (by omega) ?_
      refine Tr.bind (join_tr (xs := f.kids.map Form.tx) (sep := [32]) (by rw [List.length_map]; omega) (by simp only [List.length_map, List.length_singleton]; omega)) ?_
      refine Tr.cat (a := [40]) rfl rfl (by simp; omega) ?_
      exact Tr.cat (b := [41]) rfl rfl (by simp; omega) Tr.val
theorem implText_tr {f : Form} {d : Nat} (hb : f.w ≤ 2 ^ 30) (h : f.isOk d = true) : Tr (fun m => m_impl_formText m f) (mkB f.tx) := implText_n _ f d (Nat.le_refl _) hb h
def tailL (sep : List UInt8) (k : Nat) (l : List (List UInt8)) : List UInt8 := bif decide (k = 0) then join l sep else joinTail sep l
theorem tailL_cons (sep : List UInt8) (k : Nat) (x : List UInt8) (l : List (List UInt8)) : tailL sep k (x :: l) = (bif decide (k = 0) then [] else sep) ++ x ++ tailL sep (k + 1) l := by
  unfold tailL
  rw [decide_eq_false (show ¬ k + 1 = 0 by omega), cond_false]
  cases decide (k = 0) with
  | true => rw [cond_true, cond_true, Lib.join_cons]; simp
  | false => rw [cond_false, cond_false, jt_cons]
theorem tailL_nil (sep : List UInt8) (k : Nat) : tailL sep k [] = [] := by unfold tailL; cases decide (k = 0) <;> rfl
theorem loop_sep {α γ : Type} {xs : List α} {f : α → List UInt8} {sep : List UInt8} {L : Nat → ByteArray → Int → Option γ} {F : Nat → ByteArray → Option γ} {w : γ} {a0 : List UInt8} (N : Nat)
    (h1 : ∀ (k : Nat) (a : α) (acc : List UInt8), xs[k]? = some a → acc.length + (f a).length + sep.length ≤ 2 ^ 50 → ∀ {w : γ}, Tr (fun m => L m (mkB (acc ++ (bif decide (k = 0) then [] else sep) ++ f a)) ((k + 1 : Nat) : Int)) w → Tr (fun m => L m (mkB acc) (k : Int)) w)
    (h2 : ∀ (acc : List UInt8) {w : γ}, Tr (fun m => F m (mkB acc)) w → Tr (fun m => L m (mkB acc) (xs.length : Int)) w)
    (hb : a0.length + Lib.lens (xs.map f) + xs.length * sep.length + sep.length ≤ 2 ^ 50) (hF : Tr (fun m => F m (mkB (a0 ++ join (xs.map f) sep))) w) : Tr (fun m => L m (mkB a0) 0) w := by
  have key := drop_ind xs (fun k zs => ∀ acc : List UInt8, acc.length + Lib.lens (zs.map f) + zs.length * sep.length + sep.length ≤ 2 ^ 50 → acc ++ tailL sep k (zs.map f) = a0 ++ join (xs.map f) sep → Tr (fun m => L m (mkB acc) (k : Int)) w) ?_ ?_ 0 (Nat.zero_le _) a0 hb (by rw [List.drop_zero]; rfl)
  · exact key
  · intro acc _ hacc
    rw [List.map_nil, tailL_nil, List.append_nil] at hacc
    refine h2 acc ?_
    rw [hacc]; exact hF
  · intro k x zs hk hx hd ih acc hl hacc
    rw [List.map_cons, lens_cons, List.length_cons, Nat.succ_mul] at hl
    rw [List.map_cons, tailL_cons] at hacc
    refine h1 k x acc hx (by omega) (ih _ ?_ ?_)
    · simp only [List.length_append]
      cases decide (k = 0) with
      | true => rw [cond_true, List.length_nil]; omega
      | false => rw [cond_false]; omega
    · rw [← hacc]; simp
theorem specText_n : ∀ (n : Nat) (f : Form) (d : Nat), f.w ≤ n → f.w ≤ 2 ^ 30 → f.isOk d = true → Tr (fun m => m_spec_l1Text m f) (mkB f.tx) := by
  intro n
  induction n with
  | zero => intro f d h; have := f.w_kids; omega
  | succ n ih =>
    intro f d h hb hok
    have hw := f.w_kids
    refine Tr.step (fun m => by rw [m_spec_l1Text]) ?_
    rw [Form.tx_eq]
    rcases isOk_form hok with ⟨h1, h2, h3⟩ | ⟨h1, h2, h3⟩ | ⟨h1, h2⟩
    · refine Tr.ff (decide_eq_false (by omega)) (Tr.tt (decide_eq_true h1) ?_)
      rw [decide_eq_true h1, cond_true]
      obtain ⟨s1, s2⟩ := scOk_all h3
      have hn := nmOk_size h2
      rw [sz_list] at hn
      have b := lens_itoa (l := f.scopes) (fun x hx => by have := s1 x hx; omega)
      have a := join_len (f.scopes.map itoa) [44]
      simp only [List.length_map, List.length_singleton] at a
      unfold scTx
      by_cases h0 : f.scopes.length = 0
      · rw [decide_eq_true h0, cond_true, List.append_nil, mkB_of]
        refine Tr.step (fun m => by rw [m_spec_l1Text_l2, decide_eq_false (by omega), cond_false]) ?_
        refine Tr.step (fun m => by rw [m_spec_l1Text_j1, decide_eq_false (by omega), cond_false]) ?_
        exact Tr.step (fun m => by rw [m_spec_l1Text_j4]) Tr.val
      · rw [decide_eq_false h0, cond_false]
        have fin : ∀ acc : List UInt8, acc.length ≤ 2 ^ 50 → Tr (fun m => m_spec_l1Text_j1 m f (mkB acc)) (mkB (acc ++ [125])) := fun acc hacc => by
          refine Tr.step (fun m => by rw [m_spec_l1Text_j1, decide_eq_true (by omega), cond_true]) ?_
          refine Tr.cat (b := [125]) rfl rfl (by simp; omega) ?_
          exact Tr.step (fun m => by rw [m_spec_l1Text_j4]) Tr.val
        -- the first sign is a brace, the others are commas
        cases hs : f.scopes with
        | nil => rw [hs] at h0; exact absurd rfl h0
        | cons x0 xs0 =>
          have g0 : f.scopes[0]? = some x0 := by rw [hs]; rfl
          rw [show (f.name : ByteArray) = mkB f.name.data.toList from (mkB_of _).symm]
          rw [mkB_list]
          have step : ∀ (k : Nat) (y : Int) (acc : List UInt8), f.scopes[k]? = some y → acc.length ≤ 2 ^ 49 → ∀ {w : ByteArray}, Tr (fun m => m_spec_l1Text_l2 m f (mkB (acc ++ (bif decide (k = 0) then [123] else [44]) ++ itoa y)) ((k + 1 : Nat) : Int)) w → Tr (fun m => m_spec_l1Text_l2 m f (mkB acc) (k : Int)) w := fun k y acc hy hacc w hT => by
            have hyb := s1 y (List.mem_of_getElem? hy)
            have hk : k < f.scopes.length := (List.getElem?_eq_some_iff.1 hy).1
            have hil := itoa_len (n := y) (by omega) (by omega)
            have j3 : ∀ sg : List UInt8, sg.length = 1 → sg = (bif decide (k = 0) then [123] else [44]) → Tr (fun m => m_spec_l1Text_j3 m f (mkB acc) (k : Int) (mkB sg)) w := fun sg h1 h2 => by
              refine Tr.step (fun m => by rw [m_spec_l1Text_j3]) ?_
              refine Tr.cat rfl rfl (by omega) ?_
              refine Tr.eq (fun m => by rw [idx_nat hy, Option.bind_some]) ?_
              refine Tr.bind (dec_tr (by omega) (by omega)) ?_
              refine Tr.cat rfl rfl (by simp; omega) ?_
              rw [h2]
              exact Tr.eq (fun m => by rw [succN]) hT
            refine Tr.step (fun m => by rw [m_spec_l1Text_l2, ltN hk, cond_true]) ?_
            by_cases hk0 : k = 0
            · exact Tr.tt (decide_eq_true (by omega)) (j3 [123] rfl (by rw [decide_eq_true hk0]; rfl))
            · exact Tr.ff (decide_eq_false (by omega)) (j3 [44] rfl (by rw [decide_eq_false hk0]; rfl))
          have e : f.name.data.toList ++ ([123] ++ join ((x0 :: xs0).map itoa) [44] ++ [125]) = (f.name.data.toList ++ [123] ++ itoa x0) ++ joinTail [44] (xs0.map itoa) ++ [125] := by rw [List.map_cons, Lib.join_cons]; simp
          rw [e]
          have i0 := itoa_len (n := x0) (by have := s1 x0 (List.mem_of_getElem? g0); omega) (by have := s1 x0 (List.mem_of_getElem? g0); omega)
          refine step 0 x0 _ g0 (by omega) ?_
          rw [decide_eq_true rfl, cond_true]
          rw [hs] at b s2
          rw [List.map_cons, lens_cons] at b
          have key := drop_ind f.scopes (fun k zs => 1 ≤ k → ∀ acc : List UInt8, acc.length + Lib.lens (zs.map itoa) + zs.length ≤ 2 ^ 40 → Tr (fun m => m_spec_l1Text_l2 m f (mkB acc) (k : Int)) (mkB (acc ++ joinTail [44] (zs.map itoa) ++ [125]))) ?_ ?_ 1 (by omega) (Nat.le_refl _) (f.name.data.toList ++ [123] ++ itoa x0) (by rw [hs]; simp only [List.drop_succ_cons, List.drop_zero, List.length_append, List.length_singleton, List.length_cons, List.length_nil] at b s2 ⊢; omega)
          · rw [hs] at key; exact key
          · intro _ acc hacc
            refine Tr.step (fun m => by rw [m_spec_l1Text_l2, ltN_self, cond_false]) ?_
            have := fin acc (by omega)
            rw [show joinTail [44] (([] : List Int).map itoa) = [] from rfl, List.append_nil]; exact this
          · intro k y zs hk hy hd ihk h1k acc hacc
            rw [List.map_cons, lens_cons, List.length_cons] at hacc
            refine step k y acc hy (by omega) ?_
            rw [decide_eq_false (by omega), cond_false, List.map_cons, jt_cons]
            have := ihk (by omega) (acc ++ [44] ++ itoa y) (by simp only [List.length_append, List.length_singleton]; omega)
            rw [show acc ++ ([44] ++ itoa y ++ joinTail [44] (zs.map itoa)) ++ [125] = acc ++ [44] ++ itoa y ++ joinTail [44] (zs.map itoa) ++ [125] by simp]
            exact this
    · refine Tr.tt (decide_eq_true h1) ?_
      rw [decide_eq_false (show ¬ f.kind = 1 by omega), cond_false, decide_eq_true h1, cond_true]
      exact Tr.bind (dec_tr h2 h3) Tr.val
    · refine Tr.ff (decide_eq_false (by omega)) (Tr.ff (decide_eq_false (by omega)) ?_)
      rw [decide_eq_false (show ¬ f.kind = 1 by omega), cond_false, decide_eq_false (show ¬ f.kind = 2 by omega), cond_false]
      have hk := (isOk_kids hok).2
      have hl := Form.ws_len f.kids
      have hj : ∀ l : List Form, (∀ x ∈ l, x ∈ f.kids) → Lib.lens (l.map Form.tx) ≤ 16 * Form.ws l := by
        intro l
        induction l with
        | nil => intro _; simp [Lib.lens]
        | cons x l ihl =>
          intro hx
          have a := ihl (fun y hy => hx y (by simp [hy]))
          have b := tx_len _ x (d - 1) (Nat.le_refl _) (hk x (hx x (by simp)))
          rw [List.map_cons, lens_cons, Form.ws]; omega
      have hjj := hj f.kids (fun x hx => hx)
      have a := join_len (f.kids.map Form.tx) [32]
      simp only [List.length_map, List.length_singleton] at a
      refine loop_sep (xs := f.kids) (f := Form.tx) (sep := [32]) (L := fun m g k => m_spec_l1Text_l5 m f g k) (F := fun m g => (bcat g (⟨#[41]⟩ : ByteArray)).bind fun v35 => some v35) (a0 := [40]) 0 ?_ ?_ (by simp; omega) (Tr.cat (b := [41]) rfl rfl (by simp; omega) Tr.val)
      · intro k x acc hx hacc w hT
        simp only [List.length_singleton] at hacc
        have hkl : k < f.kids.length := (List.getElem?_eq_some_iff.1 hx).1
        have hm := List.mem_of_getElem? hx
        have j6 : ∀ acc2 : List UInt8, acc2 = acc ++ (bif decide (k = 0) then [] else [32]) → acc2.length ≤ acc.length + 1 → Tr (fun m => m_spec_l1Text_j6 m f (k : Int) (mkB acc2)) w := fun acc2 h1 h2 => by
          refine Tr.step (fun m => by rw [m_spec_l1Text_j6, idx_nat hx, Option.bind_some]) ?_
          refine Tr.bind (ih x (d - 1) (by have := Form.ws_mem hm; omega) (by have := Form.ws_mem hm; omega) (hk x hm)) ?_
          refine Tr.cat rfl rfl (by omega) ?_
          rw [h1]; exact Tr.eq (fun m => by rw [succN]) hT
        refine Tr.step (fun m => by rw [m_spec_l1Text_l5, ltN hkl, cond_true]) ?_
        by_cases hk0 : k = 0
        · exact Tr.ff (decide_eq_false (by omega)) (j6 acc (by rw [decide_eq_true hk0, cond_true, List.append_nil]) (by omega))
        · exact Tr.tt (decide_eq_true (by omega)) (Tr.cat (b := [32]) rfl rfl (by simp; omega) (j6 _ (by rw [decide_eq_false hk0, cond_false]) (by simp)))
      · intro acc w hT
        exact Tr.step (fun m => by rw [m_spec_l1Text_l5, ltN_self, cond_false]) hT
theorem specText_tr {f : Form} {d : Nat} (hb : f.w ≤ 2 ^ 30) (h : f.isOk d = true) : Tr (fun m => m_spec_l1Text m f) (mkB f.tx) := specText_n _ f d (Nat.le_refl _) hb h
end Go.Abs
end
section
set_option linter.unusedVariables false
set_option linter.unusedSimpArgs false
set_option maxHeartbeats 2000000
namespace Go.Abs
open Go.Lib (itoa join joinTail decDigits nDigits)
def idTx (x : Int) : List UInt8 := [35] ++ itoa x
mutual
def Core.tx : Core → List UInt8
  | .mk k i nm n ids d kids =>
    bif decide (k = 1) then idTx i else bif decide (k = 2) then nm.data.toList else bif decide (k = 3) then itoa n else bif decide (k = 4) then [39] ++ d.tx
    else (bif decide (k = 5) then [40, 102, 117, 110, 32, 40] ++ join (ids.map idTx) [32] ++ [41, 32] else bif decide (k = 6) then [40] else [40, 105, 102, 32]) ++ join (Core.txs kids) [32] ++ [41]
def Core.txs : List Core → List (List UInt8)
  | [] => []
  | f :: fs => f.tx :: Core.txs fs
end
theorem Core.txs_eq : ∀ l : List Core, Core.txs l = l.map Core.tx
  | [] => rfl
  | f :: fs => by rw [Core.txs, Core.txs_eq fs]; rfl
def Core.hd (c : Core) : List UInt8 := bif decide (c.kind = 5) then [40, 102, 117, 110, 32, 40] ++ join (c.ids.map idTx) [32] ++ [41, 32] else bif decide (c.kind = 6) then [40] else [40, 105, 102, 32]
theorem Core.tx_eq (c : Core) : c.tx = bif decide (c.kind = 1) then idTx c.id else bif decide (c.kind = 2) then c.name.data.toList else bif decide (c.kind = 3) then itoa c.n else bif decide (c.kind = 4) then [39] ++ c.data.tx
    else c.hd ++ join (c.kids.map Core.tx) [32] ++ [41] := by
  obtain ⟨a, b, c, d, e, f, g⟩ := c; rw [Core.tx, Core.txs_eq]; rfl
theorem idsOk_all : ∀ {l inn : List Int}, idsOk inn l = true → ∀ x ∈ l, 1 ≤ x ∧ x ≤ 999
  | [], inn, h, x, hx => by cases hx
  | y :: l, inn, h, x, hx => by
    rw [idsOk] at h
    simp only [Bool.and_eq_true, decide_eq_true_eq] at h
    rcases List.mem_cons.1 hx with rfl | hx
    · exact h.1
    · exact idsOk_all h.2.2 x hx
theorem isOk_core {c : Core} {ar : List Int} {d : Nat} (h : c.isOk ar d = true) : (c.kind = 1 ∧ 1 ≤ c.id ∧ c.id ≤ 999 ∧ c.kids = []) ∨ (c.kind = 2 ∧ nmOk c.name = true ∧ c.kids = []) ∨ (c.kind = 3 ∧ 0 ≤ c.n ∧ c.n ≤ 999 ∧ c.kids = []) ∨ (c.kind = 4 ∧ c.data.valid = true ∧ c.kids = []) ∨
    (c.kind = 5 ∧ ∀ x ∈ c.ids, 1 ≤ x ∧ x ≤ 999) ∨ c.kind = 6 ∨ c.kind = 7 := by
  have hF := (isOk_parts h).1
  unfold Core.okF lenI at hF
  by_cases h1 : c.kind = 1
  · rw [decide_eq_true h1, cond_true] at hF
    simp only [Bool.and_eq_true, decide_eq_true_eq] at hF
    exact .inl ⟨h1, hF.1.1, hF.1.2, List.length_eq_zero_iff.1 (by omega)⟩
  rw [decide_eq_false h1, cond_false] at hF
  by_cases h2 : c.kind = 2
  · rw [decide_eq_true h2, cond_true] at hF
    simp only [Bool.and_eq_true, decide_eq_true_eq] at hF
    exact .inr (.inl ⟨h2, hF.1, List.length_eq_zero_iff.1 (by omega)⟩)
  rw [decide_eq_false h2, cond_false] at hF
  by_cases h3 : c.kind = 3
  · rw [decide_eq_true h3, cond_true] at hF
    simp only [Bool.and_eq_true, decide_eq_true_eq] at hF
    exact .inr (.inr (.inl ⟨h3, hF.1.1, hF.1.2, List.length_eq_zero_iff.1 (by omega)⟩))
  rw [decide_eq_false h3, cond_false] at hF
  by_cases h4 : c.kind = 4
  · rw [decide_eq_true h4, cond_true] at hF
    simp only [Bool.and_eq_true, decide_eq_true_eq] at hF
    exact .inr (.inr (.inr (.inl ⟨h4, hF.1.1, List.length_eq_zero_iff.1 (by omega)⟩)))
  rw [decide_eq_false h4, cond_false] at hF
  by_cases h5 : c.kind = 5
  · rw [decide_eq_true h5, cond_true] at hF
    simp only [Bool.and_eq_true] at hF
    exact .inr (.inr (.inr (.inr (.inl ⟨h5, idsOk_all hF.1⟩))))
  rw [decide_eq_false h5, cond_false] at hF
  by_cases h6 : c.kind = 6
  · exact .inr (.inr (.inr (.inr (.inr (.inl h6)))))
  rw [decide_eq_false h6, cond_false] at hF
  by_cases h7 : c.kind = 7
  · exact .inr (.inr (.inr (.inr (.inr (.inr h7)))))
  rw [decide_eq_false h7, cond_false] at hF
  cases hF
theorem fvalid_isOk {f : Form} (h : f.valid = true) : f.isOk 40 = true := by
  unfold Form.valid at h
  rw [Bool.and_eq_true] at h; exact h.1
theorem lens_idTx : ∀ {l : List Int}, (∀ x ∈ l, 1 ≤ x ∧ x ≤ 999) → Lib.lens (l.map idTx) ≤ 4 * l.length
  | [], _ => by simp [Lib.lens]
  | x :: l, h => by
    have h1 := lens_idTx (l := l) (fun y hy => h y (by simp [hy]))
    have h2 := itoa_len (n := x) (by have := h x (by simp); omega) (by have := h x (by simp); omega)
    rw [List.map_cons, lens_cons, List.length_cons]
    unfold idTx at h1 ⊢
    simp only [List.length_append, List.length_singleton]; omega
theorem hd_len {c : Core} (h : c.kind = 5 → ∀ x ∈ c.ids, 1 ≤ x ∧ x ≤ 999) : c.hd.length ≤ 8 + 5 * c.ids.length := by
  unfold Core.hd
  by_cases h5 : c.kind = 5
  · rw [decide_eq_true h5, cond_true]
    have a := join_len (c.ids.map idTx) [32]
    have b := lens_idTx (h h5)
    simp only [List.length_map, List.length_singleton] at a
    simp only [List.length_append, List.length_cons, List.length_nil]; omega
  · rw [decide_eq_false h5, cond_false]
    cases decide (c.kind = 6) <;> simp <;> omega
theorem ctx_len : ∀ (n : Nat) (c : Core) (ar : List Int) (d : Nat), c.w ≤ n → c.isOk ar d = true → c.tx.length ≤ 16 * c.w := by
  intro n
  induction n with
  | zero => intro c ar d h; have := c.w_pos; omega
  | succ n ih =>
    intro c ar d h hok
    have hw := c.w_kids
    have hk := (isOk_parts hok).2
    rw [Core.tx_eq]
    have big : (c.kind = 5 → ∀ x ∈ c.ids, 1 ≤ x ∧ x ≤ 999) → ¬ c.kind = 1 → ¬ c.kind = 2 → ¬ c.kind = 3 → ¬ c.kind = 4 → (c.hd ++ join (c.kids.map Core.tx) [32] ++ [41]).length ≤ 16 * c.w := fun h5 _ _ _ _ => by
      have key : ∀ l : List Core, (∀ x ∈ l, x ∈ c.kids) → Lib.lens (l.map Core.tx) + l.length ≤ 16 * Core.ws l := by
        intro l
        induction l with
        | nil => intro _; simp [Lib.lens, Core.ws]
        | cons x l ihl =>
          intro hx
          have a := ihl (fun y hy => hx y (by simp [hy]))
          have hm := Core.ws_mem (hx x (by simp))
          have b := ih x _ (d - 1) (by omega) (hk x (hx x (by simp)))
          rw [List.map_cons, lens_cons, Core.ws, List.length_cons]; omega
      have a := join_len (c.kids.map Core.tx) [32]
      have b := key c.kids (fun x hx => hx)
      have e := hd_len h5
      have dw := c.data.w_pos
      simp only [List.length_map, List.length_singleton] at a
      simp only [List.length_append, List.length_singleton]; omega
    rcases isOk_core hok with ⟨h1, h2, h3, _⟩ | ⟨h1, h2, _⟩ | ⟨h1, h2, h3, _⟩ | ⟨h1, h2, _⟩ | ⟨h1, h2⟩ | h1 | h1
    · have a := itoa_len (n := c.id) (by omega) h3
      rw [decide_eq_true h1, cond_true]
      unfold idTx
      simp only [List.length_append, List.length_singleton]; omega
    · have a := nmOk_size h2
      rw [sz_list] at a
      rw [decide_eq_false (by omega), cond_false, decide_eq_true h1, cond_true]; omega
    · have a := itoa_len h2 h3
      rw [decide_eq_false (by omega), cond_false, decide_eq_false (by omega), cond_false, decide_eq_true h1, cond_true]; omega
    · have a := tx_len _ c.data 40 (Nat.le_refl _) (fvalid_isOk h2)
      rw [decide_eq_false (by omega), cond_false, decide_eq_false (by omega), cond_false, decide_eq_false (by omega), cond_false, decide_eq_true h1, cond_true]
      simp only [List.length_append, List.length_singleton]; omega
    · rw [decide_eq_false (by omega), cond_false, decide_eq_false (by omega), cond_false, decide_eq_false (by omega), cond_false, decide_eq_false (by omega), cond_false]
      exact big (fun _ => h2) (by omega) (by omega) (by omega) (by omega)
    · rw [decide_eq_false (by omega), cond_false, decide_eq_false (by omega), cond_false, decide_eq_false (by omega), cond_false, decide_eq_false (by omega), cond_false]
      exact big (fun _ => by omega) (by omega) (by omega) (by omega) (by omega)
    · rw [decide_eq_false (by omega), cond_false, decide_eq_false (by omega), cond_false, decide_eq_false (by omega), cond_false, decide_eq_false (by omega), cond_false]
      exact big (fun _ => by omega) (by omega) (by omega) (by omega) (by omega)
theorem kids_lens {c : Core} {ar : List Int} {d : Nat} (h : c.isOk ar d = true) : Lib.lens (c.kids.map Core.tx) ≤ 16 * Core.ws c.kids := by
  have hk := (isOk_parts h).2
  have key : ∀ l : List Core, (∀ x ∈ l, x ∈ c.kids) → Lib.lens (l.map Core.tx) ≤ 16 * Core.ws l := by
    intro l
    induction l with
    | nil => intro _; simp [Lib.lens]
    | cons x l ihl =>
      intro hx
      have a := ihl (fun y hy => hx y (by simp [hy]))
      have b := ctx_len _ x _ (d - 1) (Nat.le_refl _) (hk x (hx x (by simp)))
      rw [List.map_cons, lens_cons, Core.ws]; omega
  exact key c.kids (fun x hx => hx)
theorem implCText_n : ∀ (n : Nat) (c : Core) (ar : List Int) (d : Nat), c.w ≤ n → c.w ≤ 2 ^ 30 → c.isOk ar d = true → Tr (fun m => m_impl_coreText m c) (mkB c.tx) := by
  intro n
  induction n with
  | zero => intro c ar d h; have := c.w_pos; omega
  | succ n ih =>
    intro c ar d h hb hok
    have hw := c.w_kids
    have hk := (isOk_parts hok).2
    have hl := Core.ws_len c.kids
    have kl := kids_lens hok
    have a := join_len (c.kids.map Core.tx) [32]
    simp only [List.length_map, List.length_singleton] at a
    refine Tr.step (fun m => by rw [m_impl_coreText]) ?_
    refine loop_txt (xs := c.kids) (f := Core.tx) (L := fun m g k => m_impl_coreText_l2 m c g k) (E := fun m a => m_impl_coreText m a) (F := fun m g => m_impl_coreText_j1 m c g) (fun m g k => by rw [m_impl_coreText_l2]) (fun x hx => ih x _ (d - 1) (by have := Core.ws_mem hx; omega) (by have := Core.ws_mem hx; omega) (hk x hx)) (by omega) ?_
    refine Tr.step (fun m => by rw [m_impl_coreText_j1]) ?_
    refine Tr.bind (join_tr (xs := c.kids.map Core.tx) (sep := [32]) (by rw [List.length_map]; omega) (by simp only [List.length_map, List.length_singleton]; omega)) ?_
    rw [Core.tx_eq]
    rcases isOk_core hok with ⟨h1, h2, h3, _⟩ | ⟨h1, h2, _⟩ | ⟨h1, h2, h3, _⟩ | ⟨h1, h2, _⟩ | ⟨h1, h2⟩ | h1 | h1
    · have b := itoa_len (n := c.id) (by omega) h3
      rw [decide_eq_true h1, cond_true]
      refine Tr.eq (fun m => by rw [cond_true]) ?_
      refine Tr.bind (itoa_tr (by omega) h3) ?_
      exact Tr.cat (a := [35]) rfl rfl (by simp only [List.length_singleton]; omega) Tr.val
    · rw [decide_eq_false (by omega), cond_false, decide_eq_true h1, cond_true, mkB_of]
      exact Tr.eq (fun m => by rw [cond_false, cond_true]) Tr.val
    · rw [decide_eq_false (by omega), cond_false, decide_eq_false (by omega), cond_false, decide_eq_true h1, cond_true]
      refine Tr.eq (fun m => by rw [cond_false, cond_false, cond_true]) ?_
      exact Tr.bind (itoa_tr h2 h3) Tr.val
    · have b := tx_len _ c.data 40 (Nat.le_refl _) (fvalid_isOk h2)
      rw [decide_eq_false (by omega), cond_false, decide_eq_false (by omega), cond_false, decide_eq_false (by omega), cond_false, decide_eq_true h1, cond_true]
      refine Tr.eq (fun m => by rw [cond_false, cond_false, cond_false, cond_true]) ?_
      refine Tr.bind (implText_tr (by omega) (fvalid_isOk h2)) ?_
      exact Tr.cat (a := [39]) rfl rfl (by simp only [List.length_singleton]; omega) Tr.val
    · rw [decide_eq_false (by omega), cond_false, decide_eq_false (by omega), cond_false, decide_eq_false (by omega), cond_false, decide_eq_false (by omega), cond_false, decide_eq_true h1]
      refine Tr.eq (fun m => by rw [cond_false, cond_false, cond_false, cond_false, cond_true]) ?_
      have e := lens_idTx h2
      have e2 := join_len (c.ids.map idTx) [32]
      simp only [List.length_map, List.length_singleton] at e2
      refine loop_txt (xs := c.ids) (f := idTx) (L := fun m g k => m_impl_coreText_l4 m c (mkB (join (c.kids.map Core.tx) [32])) g k) (E := fun m x => (m_strconv_Itoa m x).bind fun v => bcat (⟨#[35]⟩ : ByteArray) v) (F := fun m g => m_impl_coreText_j3 m (mkB (join (c.kids.map Core.tx) [32])) g) (fun m g k => by
        rw [m_impl_coreText_l4]
        cases decide (k < (c.ids.length : Int)) with
        | false => rfl
        | true =>
          rw [cond_true, cond_true]
          cases idx c.ids k with
          | none => rfl
          | some x => rw [Option.bind_some, Option.bind_some, Option.bind_assoc]) (fun x hx => ?_) (by omega) ?_
      · have hx2 := h2 x hx
        have b := itoa_len (n := x) (by omega) (by omega)
        exact Tr.bind (itoa_tr (by omega) (by omega)) (Tr.of fun m => bcat_mk (a := [35]) (by simp only [List.length_singleton]; omega))
      · refine Tr.step (fun m => by rw [m_impl_coreText_j3]) ?_
        refine Tr.bind (join_tr (xs := c.ids.map idTx) (sep := [32]) (by rw [List.length_map]; omega) (by simp only [List.length_map, List.length_singleton]; omega)) ?_
        refine Tr.cat (a := [40, 102, 117, 110, 32, 40]) rfl rfl (by simp only [List.length_cons, List.length_nil]; omega) ?_
        refine Tr.cat (b := [41, 32]) rfl rfl (by simp only [List.length_append, List.length_cons, List.length_nil]; omega) ?_
        refine Tr.cat rfl rfl (by simp only [List.length_append, List.length_cons, List.length_nil]; omega) ?_
        refine Tr.cat (b := [41]) rfl rfl (by simp only [List.length_append, List.length_cons, List.length_nil]; omega) ?_
        unfold Core.hd
        rw [decide_eq_true h1, cond_true]
        exact Tr.val
    · rw [decide_eq_false (by omega), cond_false, decide_eq_false (by omega), cond_false, decide_eq_false (by omega), cond_false, decide_eq_false (by omega), cond_false, decide_eq_false (show ¬ c.kind = 5 by omega), decide_eq_true h1]
      refine Tr.eq (fun m => by rw [cond_false, cond_false, cond_false, cond_false, cond_false, cond_true]) ?_
      refine Tr.cat (a := [40]) rfl rfl (by simp only [List.length_cons, List.length_nil]; omega) ?_
      refine Tr.cat (b := [41]) rfl rfl (by simp only [List.length_append, List.length_cons, List.length_nil]; omega) ?_
      unfold Core.hd
      rw [decide_eq_false (show ¬ c.kind = 5 by omega), cond_false, decide_eq_true h1, cond_true]
      exact Tr.val
    · rw [decide_eq_false (by omega), cond_false, decide_eq_false (by omega), cond_false, decide_eq_false (by omega), cond_false, decide_eq_false (by omega), cond_false, decide_eq_false (show ¬ c.kind = 5 by omega), decide_eq_false (show ¬ c.kind = 6 by omega)]
      refine Tr.eq (fun m => by rw [cond_false, cond_false, cond_false, cond_false, cond_false, cond_false]) ?_
      refine Tr.cat (a := [40, 105, 102, 32]) rfl rfl (by simp only [List.length_cons, List.length_nil]; omega) ?_
      refine Tr.cat (b := [41]) rfl rfl (by simp only [List.length_append, List.length_cons, List.length_nil]; omega) ?_
      unfold Core.hd
      rw [decide_eq_false (show ¬ c.kind = 5 by omega), cond_false, decide_eq_false (show ¬ c.kind = 6 by omega), cond_false]
      exact Tr.val
theorem specCText_n : ∀ (n : Nat) (c : Core) (ar : List Int) (d : Nat), c.w ≤ n → c.w ≤ 2 ^ 30 → c.isOk ar d = true → Tr (fun m => m_spec_l6Text m c) (mkB c.tx) := by
  intro n
  induction n with
  | zero => intro c ar d h; have := c.w_pos; omega
  | succ n ih =>
    intro c ar d h hb hok
    have hw := c.w_kids
    have hk := (isOk_parts hok).2
    have hl := Core.ws_len c.kids
    have kl := kids_lens hok
    have a := join_len (c.kids.map Core.tx) [32]
    simp only [List.length_map, List.length_singleton] at a
    -- the kids
    have kids : ∀ a0 : List UInt8, a0.length ≤ 2 ^ 40 → Tr (fun m => m_spec_l6Text_j2 m c (mkB a0)) (mkB (a0 ++ join (c.kids.map Core.tx) [32] ++ [41])) := fun a0 h0 => by
      refine Tr.step (fun m => by rw [m_spec_l6Text_j2]) ?_
      refine loop_sep (xs := c.kids) (f := Core.tx) (sep := [32]) (L := fun m g k => m_spec_l6Text_l5 m c g k) (F := fun m g => (bcat g (⟨#[41]⟩ : ByteArray)).bind fun v42 => some v42) (a0 := a0) 0 ?_ ?_ (by simp only [List.length_singleton]; omega) (Tr.cat (b := [41]) rfl rfl (by simp only [List.length_append, List.length_singleton]; omega) Tr.val)
      · intro k x acc hx hacc w hT
        simp only [List.length_singleton] at hacc
        have hkl : k < c.kids.length := (List.getElem?_eq_some_iff.1 hx).1
        have hm := List.mem_of_getElem? hx
        have j6 : ∀ acc2 : List UInt8, acc2 = acc ++ (bif decide (k = 0) then [] else [32]) → acc2.length ≤ acc.length + 1 → Tr (fun m => m_spec_l6Text_j6 m c (k : Int) (mkB acc2)) w := fun acc2 h1 h2 => by
          refine Tr.step (fun m => by rw [m_spec_l6Text_j6, idx_nat hx, Option.bind_some]) ?_
          refine Tr.bind (ih x _ (d - 1) (by have := Core.ws_mem hm; omega) (by have := Core.ws_mem hm; omega) (hk x hm)) ?_
          refine Tr.cat rfl rfl (by omega) ?_
          rw [h1]; exact Tr.eq (fun m => by rw [succN]) hT
        refine Tr.step (fun m => by rw [m_spec_l6Text_l5, ltN hkl, cond_true]) ?_
        by_cases hk0 : k = 0
        · exact Tr.ff (decide_eq_false (by omega)) (j6 acc (by rw [decide_eq_true hk0, cond_true, List.append_nil]) (by omega))
        · exact Tr.tt (decide_eq_true (by omega)) (Tr.cat (b := [32]) rfl rfl (by simp only [List.length_singleton]; omega) (j6 _ (by rw [decide_eq_false hk0, cond_false]) (by simp)))
      · intro acc w hT
        exact Tr.step (fun m => by rw [m_spec_l6Text_l5, ltN_self, cond_false]) hT
    refine Tr.step (fun m => by rw [m_spec_l6Text]) ?_
    rw [Core.tx_eq]
    rcases isOk_core hok with ⟨h1, h2, h3, _⟩ | ⟨h1, h2, _⟩ | ⟨h1, h2, h3, _⟩ | ⟨h1, h2, _⟩ | ⟨h1, h2⟩ | h1 | h1
    · have b := itoa_len (n := c.id) (by omega) h3
      rw [decide_eq_true h1, cond_true]
      refine Tr.eq (fun m => by rw [cond_true]) ?_
      refine Tr.bind (dec_tr (by omega) h3) ?_
      exact Tr.cat (a := [35]) rfl rfl (by simp only [List.length_singleton]; omega) Tr.val
    · rw [decide_eq_false (show ¬ c.kind = 1 by omega), cond_false, decide_eq_true h1, cond_true, mkB_of]
      exact Tr.eq (fun m => by rw [cond_false, cond_true]) Tr.val
    · rw [decide_eq_false (show ¬ c.kind = 1 by omega), cond_false, decide_eq_false (show ¬ c.kind = 2 by omega), cond_false, decide_eq_true h1, cond_true]
      refine Tr.eq (fun m => by rw [cond_false, cond_false, cond_true]) ?_
      exact Tr.bind (dec_tr h2 h3) Tr.val
    · have b := tx_len _ c.data 40 (Nat.le_refl _) (fvalid_isOk h2)
      rw [decide_eq_false (show ¬ c.kind = 1 by omega), cond_false, decide_eq_false (show ¬ c.kind = 2 by omega), cond_false, decide_eq_false (show ¬ c.kind = 3 by omega), cond_false, decide_eq_true h1, cond_true]
      refine Tr.eq (fun m => by rw [cond_false, cond_false, cond_false, cond_true]) ?_
      refine Tr.bind (specText_tr (by omega) (fvalid_isOk h2)) ?_
      exact Tr.cat (a := [39]) rfl rfl (by simp only [List.length_singleton]; omega) Tr.val
    · rw [decide_eq_false (show ¬ c.kind = 1 by omega), cond_false, decide_eq_false (show ¬ c.kind = 2 by omega), cond_false, decide_eq_false (show ¬ c.kind = 3 by omega), cond_false, decide_eq_false (show ¬ c.kind = 4 by omega), cond_false, decide_eq_false (show ¬ c.kind = 7 by omega)]
      refine Tr.eq (fun m => by rw [cond_false, cond_false, cond_false, cond_false, cond_false]) ?_
      refine Tr.step (fun m => by rw [m_spec_l6Text_j1, decide_eq_true h1, cond_true]) ?_
      have e := lens_idTx h2
      have e2 := join_len (c.ids.map idTx) [32]
      simp only [List.length_map, List.length_singleton] at e2
      unfold Core.hd
      rw [decide_eq_true h1, cond_true]
      refine loop_sep (xs := c.ids) (f := idTx) (sep := [32]) (L := fun m g k => m_spec_l6Text_l3 m c g k) (F := fun m g => (bcat g (⟨#[41, 32]⟩ : ByteArray)).bind fun v27 => m_spec_l6Text_j2 m c v27) (a0 := [40, 102, 117, 110, 32, 40]) 0 ?_ ?_ (by simp only [List.length_cons, List.length_nil]; omega) (Tr.cat (b := [41, 32]) rfl rfl (by simp only [List.length_append, List.length_cons, List.length_nil]; omega) (kids _ (by simp only [List.length_append, List.length_cons, List.length_nil]; omega)))
      · intro k x acc hx hacc w hT
        have hkl : k < c.ids.length := (List.getElem?_eq_some_iff.1 hx).1
        have hm := h2 x (List.mem_of_getElem? hx)
        have hil := itoa_len (n := x) (by omega) (by omega)
        simp only [List.length_singleton] at hacc
        have j4 : ∀ acc2 : List UInt8, acc2 = acc ++ (bif decide (k = 0) then [] else [32]) → acc2.length ≤ acc.length + 1 → Tr (fun m => m_spec_l6Text_j4 m c (k : Int) (mkB acc2)) w := fun acc2 h1 h2 => by
          refine Tr.step (fun m => by rw [m_spec_l6Text_j4]) ?_
          refine Tr.cat (b := [35]) rfl rfl (by simp only [List.length_singleton]; omega) ?_
          refine Tr.eq (fun m => by rw [idx_nat hx, Option.bind_some]) ?_
          refine Tr.bind (dec_tr (by omega) (by omega)) ?_
          refine Tr.cat rfl rfl (by simp only [List.length_append, List.length_singleton]; omega) ?_
          rw [h1]
          unfold idTx at hT
          rw [show acc ++ (bif decide (k = 0) then [] else [32]) ++ [35] ++ itoa x = acc ++ (bif decide (k = 0) then [] else [32]) ++ ([35] ++ itoa x) by simp]
          exact Tr.eq (fun m => by rw [succN]) hT
        refine Tr.step (fun m => by rw [m_spec_l6Text_l3, ltN hkl, cond_true]) ?_
        by_cases hk0 : k = 0
        · exact Tr.ff (decide_eq_false (by omega)) (j4 acc (by rw [decide_eq_true hk0, cond_true, List.append_nil]) (by omega))
        · exact Tr.tt (decide_eq_true (by omega)) (Tr.cat (b := [32]) rfl rfl (by simp only [List.length_singleton]; omega) (j4 _ (by rw [decide_eq_false hk0, cond_false]) (by simp)))
      · intro acc w hT
        exact Tr.step (fun m => by rw [m_spec_l6Text_l3, ltN_self, cond_false]) hT
    · rw [decide_eq_false (show ¬ c.kind = 1 by omega), cond_false, decide_eq_false (show ¬ c.kind = 2 by omega), cond_false, decide_eq_false (show ¬ c.kind = 3 by omega), cond_false, decide_eq_false (show ¬ c.kind = 4 by omega), cond_false, decide_eq_false (show ¬ c.kind = 7 by omega)]
      refine Tr.eq (fun m => by rw [cond_false, cond_false, cond_false, cond_false, cond_false]) ?_
      refine Tr.step (fun m => by rw [m_spec_l6Text_j1, decide_eq_false (show ¬ c.kind = 5 by omega), cond_false]) ?_
      unfold Core.hd
      rw [decide_eq_false (show ¬ c.kind = 5 by omega), cond_false, decide_eq_true h1, cond_true]
      exact kids [40] (by simp)
    · rw [decide_eq_false (show ¬ c.kind = 1 by omega), cond_false, decide_eq_false (show ¬ c.kind = 2 by omega), cond_false, decide_eq_false (show ¬ c.kind = 3 by omega), cond_false, decide_eq_false (show ¬ c.kind = 4 by omega), cond_false, decide_eq_true h1]
      refine Tr.eq (fun m => by rw [cond_false, cond_false, cond_false, cond_false, cond_true]) ?_
      refine Tr.step (fun m => by rw [m_spec_l6Text_j1, decide_eq_false (show ¬ c.kind = 5 by omega), cond_false]) ?_
      unfold Core.hd
      rw [decide_eq_false (show ¬ c.kind = 5 by omega), cond_false, decide_eq_false (show ¬ c.kind = 6 by omega), cond_false]
      exact kids [40, 105, 102, 32] (by simp)
noncomputable def fmtC (c : Core) : ByteArray := bif c.valid then mkB c.tx else (⟨#[]⟩ : ByteArray)
theorem cvalid_isOk {c : Core} (h : c.valid = true) : c.isOk [] 120 = true := by
  unfold Core.valid at h
  rw [Bool.and_eq_true] at h; exact h.1
theorem implFormatCore_tr (c : Core) (hf : c.fit) (hb : c.w ≤ 2 ^ 30) : Tr (fun m => m_impl_FormatCore m c) (fmtC c) := by
  refine Tr.eq (fun m => by unfold m_impl_FormatCore; rfl) ?_
  refine Tr.bind (implCoreValid_tr c hf (by omega)) ?_
  unfold fmtC
  cases hv : c.valid with
  | false => exact Tr.tt rfl Tr.val
  | true => exact Tr.ff rfl (Tr.bind (implCText_n _ c [] 120 (Nat.le_refl _) hb (cvalid_isOk hv)) Tr.val)
theorem specFormatCore_tr (c : Core) (hf : c.fit) (hb : c.w ≤ 2 ^ 30) : Tr (fun m => m_spec_FormatCore m c) (fmtC c) := by
  refine Tr.eq (fun m => by unfold m_spec_FormatCore; rfl) ?_
  refine Tr.bind (specCoreValid_tr c hf (by omega)) ?_
  unfold fmtC
  cases hv : c.valid with
  | false => exact Tr.tt rfl Tr.val
  | true => exact Tr.ff rfl (Tr.bind (specCText_n _ c [] 120 (Nat.le_refl _) hb (cvalid_isOk hv)) Tr.val)
end Go.Abs
end
section
set_option linter.unusedVariables false
set_option linter.unusedSimpArgs false
set_option maxHeartbeats 2000000
namespace Go.Abs
open Go.Lib (itoa join joinTail decDigits nDigits)
def openS (g : Int) (x : UInt8) : Int := bif decide (x = 40) then g + 1 else bif decide (x = 41) then g - 1 else g
def scanS : Int → List UInt8 → Bool
  | g, [] => decide (g = 0)
  | g, x :: xs => bif decide (openS g x < 0) then false else scanS (openS g x) xs
def Bal (l : List UInt8) : Prop := ∀ g rest, 0 ≤ g → scanS g (l ++ rest) = scanS g rest
theorem Bal.nil : Bal [] := fun g rest _ => rfl
theorem Bal.app {a b : List UInt8} (ha : Bal a) (hb : Bal b) : Bal (a ++ b) := fun g rest h => by rw [List.append_assoc, ha g _ h, hb g _ h]
theorem Bal.plain : ∀ {l : List UInt8}, (∀ x ∈ l, x ≠ 40 ∧ x ≠ 41) → Bal l
  | [], _ => Bal.nil
  | x :: l, h => fun g rest hg => by
    have e : openS g x = g := by unfold openS; rw [decide_eq_false (h x (by simp)).1, decide_eq_false (h x (by simp)).2]; rfl
    rw [List.cons_append, scanS, e, decide_eq_false (by omega), cond_false]
    exact Bal.plain (fun y hy => h y (by simp [hy])) g rest hg
theorem Bal.wrap {l : List UInt8} (h : Bal l) : Bal ([40] ++ l ++ [41]) := fun g rest hg => by
  have e1 : openS g 40 = g + 1 := rfl
  have e2 : openS (g + 1) 41 = g := by show g + 1 - 1 = g; omega
  rw [List.append_assoc, List.append_assoc, List.singleton_append, scanS, e1, decide_eq_false (by omega), cond_false, h _ _ (by omega), List.singleton_append, scanS, e2, decide_eq_false (by omega), cond_false]
theorem Bal.joinT {sep : List UInt8} (hs : Bal sep) : ∀ {xs : List (List UInt8)}, (∀ x ∈ xs, Bal x) → Bal (joinTail sep xs)
  | [], _ => Bal.nil
  | x :: xs, h => by rw [jt_cons]; exact (hs.app (h x (by simp))).app (Bal.joinT hs (fun y hy => h y (by simp [hy])))
theorem Bal.join {sep : List UInt8} (hs : Bal sep) {xs : List (List UInt8)} (h : ∀ x ∈ xs, Bal x) : Bal (join xs sep) := by
  cases xs with
  | nil => exact Bal.nil
  | cons x xs => rw [Lib.join_cons]; exact (h x (by simp)).app (Bal.joinT hs (fun y hy => h y (by simp [hy])))
theorem dec_plain : ∀ (n : Nat), ∀ x ∈ decDigits n, x ≠ 40 ∧ x ≠ 41 := by
  intro n
  induction n using Nat.strongRecOn with
  | _ n ih =>
    intro x hx
    have one : ∀ k : Nat, k < 10 → (UInt8.ofNat (48 + k) ≠ 40 ∧ UInt8.ofNat (48 + k) ≠ 41) := by
      intro k hk
      have : k = 0 ∨ k = 1 ∨ k = 2 ∨ k = 3 ∨ k = 4 ∨ k = 5 ∨ k = 6 ∨ k = 7 ∨ k = 8 ∨ k = 9 := by omega
      rcases this with rfl | rfl | rfl | rfl | rfl | rfl | rfl | rfl | rfl | rfl <;> decide
    by_cases h : n < 10
    · rw [Lib.decDigits_one h] at hx
      rw [List.mem_singleton.1 hx]; exact one n h
    · rw [Lib.decDigits, dif_neg h] at hx
      rcases List.mem_append.1 hx with hx | hx
      · exact ih (n / 10) (by omega) x hx
      · rw [List.mem_singleton.1 hx]; exact one _ (by omega)
theorem itoa_bal {n : Int} (h0 : 0 ≤ n) : Bal (itoa n) := by
  obtain ⟨k, rfl⟩ := Int.eq_ofNat_of_zero_le h0
  rw [itoa_nat]; exact Bal.plain (dec_plain k)
theorem nmF_plain : ∀ {l : List UInt8} {k : Nat}, nmF k l = true → ∀ x ∈ l, x ≠ 40 ∧ x ≠ 41
  | [], _, _, x, hx => by cases hx
  | y :: l, k, h, x, hx => by
    rw [nmF, Bool.and_eq_true] at h
    rcases List.mem_cons.1 hx with rfl | hx
    · refine ⟨?_, ?_⟩
      · rintro rfl
        have := h.1
        revert this
        generalize decide ((k : Int) = 0) = b
        cases b <;> decide
      · rintro rfl
        have := h.1
        revert this
        generalize decide ((k : Int) = 0) = b
        cases b <;> decide
    · exact nmF_plain h.2 x hx
theorem nm_bal {s : ByteArray} (h : nmOk s = true) : Bal s.data.toList := by
  unfold nmOk at h
  rw [Bool.or_eq_true, Bool.or_eq_true, decide_eq_true_eq, decide_eq_true_eq, Bool.and_eq_true] at h
  rcases h with rfl | rfl | h
  · exact Bal.plain (by decide)
  · exact Bal.plain (by decide)
  · exact Bal.plain (nmF_plain h.1)
theorem nm_pos {s : ByteArray} (h : nmOk s = true) : s.data.toList ≠ [] := by
  unfold nmOk at h
  rw [Bool.or_eq_true, Bool.or_eq_true, decide_eq_true_eq, decide_eq_true_eq, Bool.and_eq_true] at h
  rcases h with rfl | rfl | h
  · decide
  · decide
  · have := h.2
    unfold nmSz at this
    rw [Bool.and_eq_true, decide_eq_true_eq, sz_list] at this
    intro hh; rw [hh] at this; simp at this
theorem form_bal : ∀ (n : Nat) (f : Form) (d : Nat), f.w ≤ n → f.isOk d = true → Bal f.tx := by
  intro n
  induction n with
  | zero => intro f d h; have := f.w_kids; omega
  | succ n ih =>
    intro f d h hok
    have hw := f.w_kids
    rw [Form.tx_eq]
    rcases isOk_form hok with ⟨h1, h2, h3⟩ | ⟨h1, h2, h3⟩ | ⟨h1, h2⟩
    · rw [decide_eq_true h1, cond_true]
      refine (nm_bal h2).app ?_
      unfold scTx
      cases decide (f.scopes.length = 0) with
      | true => exact Bal.nil
      | false =>
        obtain ⟨s1, s2⟩ := scOk_all h3
        refine ((Bal.plain (by decide)).app (Bal.join (Bal.plain (by decide)) (fun x hx => ?_))).app (Bal.plain (by decide))
        obtain ⟨y, hy, rfl⟩ := List.mem_map.1 hx
        exact itoa_bal (by have := s1 y hy; omega)
    · rw [decide_eq_false (by omega), cond_false, decide_eq_true h1, cond_true]
      exact itoa_bal h2
    · rw [decide_eq_false (by omega), cond_false, decide_eq_false (by omega), cond_false]
      have hk := (isOk_kids hok).2
      refine Bal.wrap (Bal.join (Bal.plain (by decide)) (fun x hx => ?_))
      obtain ⟨y, hy, rfl⟩ := List.mem_map.1 hx
      exact ih y (d - 1) (by have := Form.ws_mem hy; omega) (hk y hy)
theorem core_bal : ∀ (n : Nat) (c : Core) (ar : List Int) (d : Nat), c.w ≤ n → c.isOk ar d = true → Bal c.tx ∧ c.tx ≠ [] := by
  intro n
  induction n with
  | zero => intro c ar d h; have := c.w_pos; omega
  | succ n ih =>
    intro c ar d h hok
    have hw := c.w_kids
    have hk := (isOk_parts hok).2
    have kids : Bal (join (c.kids.map Core.tx) [32]) := Bal.join (Bal.plain (by decide)) (fun x hx => by
      obtain ⟨y, hy, rfl⟩ := List.mem_map.1 hx
      exact (ih y _ (d - 1) (by have := Core.ws_mem hy; omega) (hk y hy)).1)
    rw [Core.tx_eq]
    rcases isOk_core hok with ⟨h1, h2, h3, _⟩ | ⟨h1, h2, _⟩ | ⟨h1, h2, h3, _⟩ | ⟨h1, h2, _⟩ | ⟨h1, h2⟩ | h1 | h1
    · rw [decide_eq_true h1, cond_true]
      unfold idTx
      exact ⟨(Bal.plain (by decide)).app (itoa_bal (by omega)), by simp⟩
    · rw [decide_eq_false (by omega), cond_false, decide_eq_true h1, cond_true]
      exact ⟨nm_bal h2, nm_pos h2⟩
    · rw [decide_eq_false (by omega), cond_false, decide_eq_false (by omega), cond_false, decide_eq_true h1, cond_true]
      refine ⟨itoa_bal h2, fun hh => ?_⟩
      obtain ⟨k, hk2⟩ := Int.eq_ofNat_of_zero_le h2
      rw [hk2, itoa_nat] at hh
      have := Lib.decDigits_length k
      rw [hh] at this
      have := Lib.nDigits_pos k
      simp at *; omega
    · rw [decide_eq_false (by omega), cond_false, decide_eq_false (by omega), cond_false, decide_eq_false (by omega), cond_false, decide_eq_true h1, cond_true]
      exact ⟨(Bal.plain (by decide)).app (form_bal _ c.data 40 (Nat.le_refl _) (fvalid_isOk h2)), by simp⟩
    · rw [decide_eq_false (by omega), cond_false, decide_eq_false (by omega), cond_false, decide_eq_false (by omega), cond_false, decide_eq_false (by omega), cond_false]
      refine ⟨?_, by simp⟩
      unfold Core.hd
      rw [decide_eq_true h1, cond_true]
      have hi : Bal (join (c.ids.map idTx) [32]) := Bal.join (Bal.plain (by decide)) (fun x hx => by
        obtain ⟨y, hy, rfl⟩ := List.mem_map.1 hx
        have := h2 y hy
        unfold idTx
        exact (Bal.plain (by decide)).app (itoa_bal (by omega)))
      have e : [40, 102, 117, 110, 32, 40] ++ join (c.ids.map idTx) [32] ++ [41, 32] ++ join (c.kids.map Core.tx) [32] ++ [41] = [40] ++ ([102, 117, 110, 32] ++ ([40] ++ join (c.ids.map idTx) [32] ++ [41]) ++ [32] ++ join (c.kids.map Core.tx) [32]) ++ [41] := by simp
      rw [e]
      exact Bal.wrap ((((Bal.plain (by decide)).app hi.wrap).app (Bal.plain (by decide))).app kids)
    · rw [decide_eq_false (by omega), cond_false, decide_eq_false (by omega), cond_false, decide_eq_false (by omega), cond_false, decide_eq_false (by omega), cond_false]
      refine ⟨?_, by simp⟩
      unfold Core.hd
      rw [decide_eq_false (by omega), cond_false, decide_eq_true h1, cond_true]
      exact kids.wrap
    · rw [decide_eq_false (by omega), cond_false, decide_eq_false (by omega), cond_false, decide_eq_false (by omega), cond_false, decide_eq_false (by omega), cond_false]
      refine ⟨?_, by simp⟩
      unfold Core.hd
      rw [decide_eq_false (by omega), cond_false, decide_eq_false (by omega), cond_false]
      have e : [40, 105, 102, 32] ++ join (c.kids.map Core.tx) [32] ++ [41] = [40] ++ ([105, 102, 32] ++ join (c.kids.map Core.tx) [32]) ++ [41] := by simp
      rw [e]
      exact Bal.wrap ((Bal.plain (by decide)).app kids)
theorem openS_ge {g : Int} {x : UInt8} (h : 0 ≤ g) : openS g x ≤ g + 1 := by
  unfold openS
  cases decide (x = 40) <;> cases decide (x = 41) <;> simp <;> omega
theorem scan_tr (s : ByteArray) (hs : s.size ≤ 2 ^ 40) : Tr (fun m => m_laws_FnCoreBrackets_l2 m s 0 0) (scanS 0 s.data.toList) := by
  have hsz := sz_list s
  have key := drop_ind s.data.toList (fun k zs => ∀ g : Int, 0 ≤ g → g ≤ k → Tr (fun m => m_laws_FnCoreBrackets_l2 m s g (k : Int)) (scanS g zs)) ?_ ?_ 0 (Nat.zero_le _) 0 (by omega) (by simp)
  · exact key
  · intro g _ _
    refine Tr.step (fun m => by rw [m_laws_FnCoreBrackets_l2, hsz, ltN_self, cond_false]) ?_
    rw [scanS]; exact Tr.val
  · intro k x zs hk hx hd ih g hg hgk
    have hkb : k ≤ 2 ^ 40 := by omega
    refine Tr.step (fun m => by rw [m_laws_FnCoreBrackets_l2, hsz, ltN hk, cond_true, bidx_nat hx, Option.bind_some]) ?_
    have x40 : decide ((x.toNat : Int) = 40) = decide (x = 40) := by
      rw [decide_eq_decide]
      constructor
      · intro h; exact UInt8.toNat_inj.1 (by have : x.toNat = 40 := by omega
                                             rw [this]; rfl)
      · rintro rfl; rfl
    have x41 : decide ((x.toNat : Int) = 41) = decide (x = 41) := by
      rw [decide_eq_decide]
      constructor
      · intro h; exact UInt8.toNat_inj.1 (by have : x.toNat = 41 := by omega
                                             rw [this]; rfl)
      · rintro rfl; rfl
    have j4 : ∀ g2 : Int, g2 = openS g x → Tr (fun m => m_laws_FnCoreBrackets_j4 m s (k : Int) g2) (scanS g (x :: zs)) := fun g2 h2 => by
      refine Tr.step (fun m => by rw [m_laws_FnCoreBrackets_j4]) ?_
      rw [scanS, ← h2]
      have hle := openS_ge (x := x) hg
      rw [← h2] at hle
      by_cases hn : g2 < 0
      · rw [decide_eq_true hn, cond_true]; exact Tr.tt rfl Tr.val
      · rw [decide_eq_false hn, cond_false]
        refine Tr.ff rfl (Tr.eq (fun m => by rw [w64_in (by omega), succN]) (ih g2 (by omega) (by omega)))
    have j3 : ∀ g1 : Int, g1 = (bif decide (x = 40) then g + 1 else g) → Tr (fun m => m_laws_FnCoreBrackets_j3 m s (k : Int) g1) (scanS g (x :: zs)) := fun g1 h1 => by
      refine Tr.step (fun m => by rw [m_laws_FnCoreBrackets_j3, bidx_nat hx, Option.bind_some]) ?_
      rw [x41]
      by_cases h41 : x = 41
      · subst h41
        have e : g1 = g := h1
        refine Tr.tt rfl (Tr.eq (fun m => by rw [e, w64_in (by omega)]) (j4 (g - 1) rfl))
      · refine Tr.ff (decide_eq_false h41) (j4 _ ?_)
        rw [h1]; unfold openS
        rw [decide_eq_false h41, cond_false]
    rw [x40]
    by_cases h40 : x = 40
    · refine Tr.tt (decide_eq_true h40) (Tr.eq (fun m => by rw [w64_in (by omega)]) (j3 _ (by rw [decide_eq_true h40]; rfl)))
    · exact Tr.ff (decide_eq_false h40) (j3 _ (by rw [decide_eq_false h40]; rfl))
theorem FnCoreBrackets_law (code : List Int) (h : ∀ x ∈ code, 0 ≤ x ∧ x < 256) : TQ (fun m => m_laws_FnCoreBrackets m code) (fun r => r = true) := by
  refine TQ.eq (fun m => by unfold m_laws_FnCoreBrackets; rfl) (TQ.cond (fun _ => TQ.val rfl) (fun _ => ?_))
  refine TQ.bind (Q := fun c : Core => c.w ≤ 2 ^ 20 ∧ c.fit) (TQ.eq (fun m => by unfold m_spec_DrawFormatCore; rfl) (TQ.bind (l6Draw_tq code h) (fun v hv => TQ.val hv))) (fun c hv => ?_)
  obtain ⟨hw, hf⟩ := hv
  refine ⟨true, ?_, rfl⟩
  refine Tr.bind (implFormatCore_tr c hf (by omega)) (Tr.bind (specFormatCore_tr c hf (by omega)) (Tr.ff (decide_eq_false (fun h => h rfl)) (Tr.bind (implCoreValid_tr c hf (by omega)) ?_)))
  cases hv : c.valid with
  | false =>
    have e : fmtC c = (⟨#[]⟩ : ByteArray) := by unfold fmtC; rw [hv]; rfl
    rw [e]
    refine Tr.step (fun m => by rw [decide_eq_false (by decide), m_laws_FnCoreBrackets_j1, cond_false]) ?_
    exact scan_tr _ (by decide)
  | true =>
    have hok := cvalid_isOk hv
    obtain ⟨hb, hne⟩ := core_bal _ c [] 120 (Nat.le_refl _) hok
    have hl := ctx_len _ c [] 120 (Nat.le_refl _) hok
    have e : fmtC c = mkB c.tx := by unfold fmtC; rw [hv]; rfl
    have hne2 : mkB c.tx ≠ (⟨#[]⟩ : ByteArray) := fun hh => hne (mkB_inj (b := []) hh)
    rw [e]
    refine Tr.step (fun m => by rw [decide_eq_true hne2, decide_eq_false (by simp), m_laws_FnCoreBrackets_j1, cond_false]) ?_
    have := scan_tr (mkB c.tx) (by rw [mkB_size]; omega)
    rw [mkB_list] at this
    have hs := hb 0 [] (by omega)
    rw [List.append_nil] at hs
    rw [hs] at this
    exact this
end Go.Abs
end
