/- A part of the proof: what the functions that the law calls answer, as pure values. -/
import Derived.Test.YtpdacpnncmemgaaK0b7006a29a35
import Derived.Test.YtpdacpnncmemgaaK5ed0e74f4a30
import Derived.Test.YtpdacpnncmemgaaK6273a2175472
import Derived.Test.YtpdacpnncmemgaaKd6184381962e
set_option linter.unusedSimpArgs false
set_option linter.unusedVariables false
section
set_option linter.unusedVariables false
set_option linter.unusedSimpArgs false
set_option maxHeartbeats 4000000
namespace Go.Abs
theorem nm_fit {l : List ByteArray} (h : l.all (fun s => decide (s.size ≤ 100)) = true) {x : ByteArray} (hx : x ∈ l) : x.size ≤ 9223372036854775807 := by
  have := List.all_eq_true.1 h x hx
  have := of_decide_eq_true this
  omega
theorem leaf_fit {k : Int} {nm : ByteArray} {n : Int} (h : nm.size ≤ 9223372036854775807) : (Form.mk k nm n [] []).fit := by rw [Form.fit]; exact ⟨h, by simp, by simp, trivial⟩
theorem core_fit {k i : Int} {nm : ByteArray} {n : Int} {ids : List Int} {d : Form} {kids : List Core} (h1 : nm.size ≤ 9223372036854775807) (h2 : ids.length ≤ 9223372036854775807) (h3 : d.fit) (h4 : kids.length ≤ 9223372036854775807) (h5 : Core.fits kids) : (Core.mk k i nm n ids d kids).fit := by rw [Core.fit]; exact ⟨h1, h2, h3, h4, h5⟩
theorem form_one {f : Form} (h : f.fit) : Form.fits [f] := by rw [Form.fits]; exact ⟨h, trivial⟩
theorem core_one {f : Core} (h : f.fit) : Core.fits [f] := by rw [Core.fits]; exact ⟨h, trivial⟩
theorem Core.fits_app : ∀ {a b : List Core}, Core.fits a → Core.fits b → Core.fits (a ++ b)
  | [], b, _, h => h
  | x :: xs, b, h1, h2 => by rw [Core.fits] at h1; rw [List.cons_append, Core.fits]; exact ⟨h1.1, Core.fits_app h1.2 h2⟩
theorem Core.fits_set : ∀ (l : List Core) (i : Nat) (x : Core), Core.fits l → x.fit → Core.fits (l.set i x)
  | [], i, x, h, _ => h
  | y :: l, 0, x, h, hx => by rw [Core.fits] at h; rw [List.set_cons_zero, Core.fits]; exact ⟨hx, h.2⟩
  | y :: l, i + 1, x, h, hx => by rw [Core.fits] at h; rw [List.set_cons_succ, Core.fits]; exact ⟨h.1, Core.fits_set l i x h.2 hx⟩
theorem pow4 (d : Nat) : 1 ≤ 4 ^ d := Nat.pos_of_ne_zero (by simp)
theorem pow4s (d : Nat) : 4 ^ (d + 1) = 4 * 4 ^ d := by rw [Nat.pow_succ]; omega
theorem l1Some_tq : ∀ (d : Nat) (o : l15Rd) (K : Int), OkRd o K → d ≤ 12 → K + ((4 ^ (d + 1) : Nat) : Int) ≤ 1000000000 → TQ (fun m => m_spec_l1Some m o (d : Int)) (fun r => OkRd r.2 (K + ((4 ^ (d + 1) : Nat) : Int)) ∧ r.1.w ≤ 4 ^ (d + 1) ∧ r.1.fit) := by
  intro d
  induction d with
  | zero =>
    intro o K h hd hK
    refine TQ.step (fun m => by rw [m_spec_l1Some]) ?_
    refine TQ.cond (fun hc => ?_) (fun hc => by simp at hc)
    refine TQ.bind (pick_tq o 4 K h (by omega)) (fun v hv => ?_)
    refine TQ.cond (fun _ => ?_) (fun _ => ?_)
    · refine TQ.bind (num_tq _ _ _ hv.1 (by omega) (by decide)) (fun w hw => TQ.val ⟨hw.1.mono (by simp; omega), by simp [Form.w, Form.ws], leaf_fit (by decide)⟩)
    · refine TQ.bind (of_tq _ _ _ hv.1 (by omega) (by decide)) (fun w hw => ?_)
      exact TQ.ev (Tr.of (fun m => rfl)) (TQ.val ⟨hw.1.mono (by simp; omega), by simp [Form.w, Form.ws], leaf_fit (nm_fit (by decide) hw.2)⟩)
  | succ d ih =>
    intro o K h hd hK
    have p1 := pow4 d
    have p2 := pow4s d
    have p3 := pow4s (d + 1)
    refine TQ.step (fun m => by rw [m_spec_l1Some]) ?_
    refine TQ.cond (fun hc => by simp at hc; omega) (fun hc => ?_)
    refine TQ.bind (pick_tq o 3 K h (by omega)) (fun v hv => ?_)
    refine TQ.cond (fun _ => ?_) (fun _ => ?_)
    · refine TQ.bind (pick_tq _ 4 _ hv.1 (by omega)) (fun v hv => ?_)
      refine TQ.cond (fun _ => ?_) (fun _ => ?_)
      · refine TQ.bind (num_tq _ _ _ hv.1 (by omega) (by decide)) (fun w hw => TQ.val ⟨hw.1.mono (by omega), by simp only [Form.w, Form.ws, List.length_nil]; omega, leaf_fit (by decide)⟩)
      · refine TQ.bind (of_tq _ _ _ hv.1 (by omega) (by decide)) (fun w hw => ?_)
        exact TQ.ev (Tr.of (fun m => rfl)) (TQ.val ⟨hw.1.mono (by omega), by simp only [Form.w, Form.ws, List.length_nil]; omega, leaf_fit (nm_fit (by decide) hw.2)⟩)
    · refine TQ.bind (pick_tq _ 4 _ hv.1 (by omega)) (fun v hv => ?_)
      obtain ⟨h1, _, h2, _⟩ := hv
      obtain ⟨h2, h3⟩ := h2 (by decide)
      have ed : w64 (((d + 1 : Nat) : Int) - 1) = (d : Int) := by rw [w64_in (by omega)]; omega
      have key : ∀ (j : Nat) (b : List Int) (p : Int) (l : List Form) (K' : Int), j ≤ 3 → OkRd ⟨b, p⟩ K' → K' + (j : Int) * ((4 ^ (d + 1) : Nat) : Int) ≤ 1000000000 → l.length ≤ 3 - j → Form.fits l →
          TQ (fun m => m_spec_l1Some_l1 m ((d + 1 : Nat) : Int) (j : Int) b p l) (fun r => OkRd r.2 (K' + (j : Int) * ((4 ^ (d + 1) : Nat) : Int)) ∧ r.1.w ≤ 1 + Form.ws l + j * (1 + 4 ^ (d + 1)) ∧ r.1.fit) := by
        intro j
        induction j with
        | zero =>
          intro b p l K' hj hb hK' hl hfl
          refine TQ.step (fun m => by rw [m_spec_l1Some_l1]) ?_
          refine TQ.cond (fun hc => by simp at hc) (fun hc => TQ.val ⟨hb.mono (by simp), by simp [Form.w], by rw [Form.fit]; exact ⟨by decide, by simp, by omega, hfl⟩⟩)
        | succ j ihj =>
          intro b p l K' hj hb hK' hl hfl
          have em : ((j + 1 : Nat) : Int) * ((4 ^ (d + 1) : Nat) : Int) = (j : Int) * ((4 ^ (d + 1) : Nat) : Int) + ((4 ^ (d + 1) : Nat) : Int) := by rw [Int.natCast_add, Int.add_mul]; simp
          have e0 : 0 ≤ (j : Int) * ((4 ^ (d + 1) : Nat) : Int) := Int.mul_nonneg (by omega) (by omega)
          have en : (j + 1) * (1 + 4 ^ (d + 1)) = j * (1 + 4 ^ (d + 1)) + (1 + 4 ^ (d + 1)) := by rw [Nat.add_mul]; omega
          refine TQ.step (fun m => by rw [m_spec_l1Some_l1, ed]) ?_
          refine TQ.cond (fun hc => ?_) (fun hc => by exfalso; simp at hc; try omega)
          refine TQ.bind (ih _ K' hb (by omega) (by omega)) (fun v hv => ?_)
          refine TQ.chk (by simp; omega) ?_
          have ew : w64 (((j + 1 : Nat) : Int) - 1) = (j : Int) := by rw [w64_in (by omega)]; omega
          rw [ew]
          refine (ihj _ _ _ _ (by omega) hv.1.mk' (by omega) (by simp; omega) (Form.fits_app hfl (form_one hv.2.2))).mono (fun r hr => ⟨hr.1.mono (by omega), ?_, hr.2.2⟩)
          have := hr.2.1
          have hv2 := hv.2.1
          rw [Form.ws_append] at this
          simp only [Form.ws] at this
          omega
      obtain ⟨j, hj⟩ := Int.eq_ofNat_of_zero_le h2
      rw [hj]
      have hj3 : j ≤ 3 := by omega
      have hm : (j : Int) * ((4 ^ (d + 1) : Nat) : Int) ≤ 3 * ((4 ^ (d + 1) : Nat) : Int) := Int.mul_le_mul_of_nonneg_right (by omega) (by omega)
      have hm2 : j * (1 + 4 ^ (d + 1)) ≤ 3 * (1 + 4 ^ (d + 1)) := Nat.mul_le_mul_right _ hj3
      refine (key j _ _ [] (K + 1 + 1) hj3 h1.mk' (by omega) (by simp) trivial).mono (fun r hr => ⟨hr.1.mono (by omega), ?_, hr.2.2⟩)
      have := hr.2.1
      simp only [Form.ws] at this
      omega
theorem l6Copy_tr : ∀ (n : Nat) (f : Core), f.w ≤ n → f.w ≤ 2 ^ 36 → Tr (fun m => m_spec_l6Copy m f) f := by
  intro n
  induction n with
  | zero => intro f h _; have := f.w_kids; omega
  | succ n ih =>
    intro f h hb
    have hw := f.w_kids
    have hl := Core.ws_len f.kids
    refine Tr.step (fun m => by rw [m_spec_l6Copy]) ?_
    refine Tr.chk (by simp; omega) ?_
    refine Tr.bind (l1Copy_tr _ f.data (Nat.le_refl _) (by omega)) ?_
    have key := drop_ind f.kids (fun k ys => ∀ acc : List Core, acc.length = k → Tr (fun m => m_spec_l6Copy_l1 m f f.data (k : Int) acc) (Core.mk f.kind f.id f.name f.n f.ids f.data (acc ++ ys))) ?_ ?_ 0 (Nat.zero_le _) [] rfl
    · rw [List.drop_zero, List.nil_append] at key
      obtain ⟨a, b, c, d, e, g, h⟩ := f
      exact key
    · intro acc _
      refine Tr.step (fun m => by rw [m_spec_l6Copy_l1, ltN_self]) ?_
      rw [List.append_nil]; exact Tr.val
    · intro k x xs hk hx hd ihk acc hacc
      have hmem : x ∈ f.kids := List.mem_of_getElem? hx
      have hxw := Core.ws_mem hmem
      refine Tr.step (fun m => by rw [m_spec_l6Copy_l1, ltN hk, idx_nat hx, succN]) ?_
      refine Tr.bind (ih x (by omega) (by omega)) ?_
      refine Tr.chk (by simp; omega) ?_
      have := ihk (acc ++ [x]) (by simp; exact hacc)
      rwa [List.append_assoc] at this
def leafF (x4 : Int) (v7 : Int × l15Rd) (fuel : Nat) : Option (Core × Int × l15Rd) :=
  (bif (decide (v7.1 = 0)) then
 (m_spec_l1Some fuel v7.2 1).bind fun v9 =>
 some ((Core.mk 4 0 (⟨#[]⟩ : ByteArray) 0 ([] : List Int) v9.1 ([] : List Core)), x4, v9.2)
 else
 (bif (decide (v7.1 = 1)) then
 (m_spec_l15Rd_of fuel v7.2 [(⟨#[102]⟩ : ByteArray), (⟨#[43]⟩ : ByteArray), (⟨#[108, 105, 115, 116]⟩ : ByteArray)]).bind fun v11 =>
 some ((Core.mk 2 0 v11.1 0 ([] : List Int) (Form.mk 0 (⟨#[]⟩ : ByteArray) 0 ([] : List Int) ([] : List Form)) ([] : List Core)), x4, v11.2)
 else
 (m_spec_l15Rd_num fuel v7.2 [0, 1, 5, 42]).bind fun v12 =>
 some ((Core.mk 3 0 (⟨#[]⟩ : ByteArray) v12.1 ([] : List Int) (Form.mk 0 (⟨#[]⟩ : ByteArray) 0 ([] : List Int) ([] : List Form)) ([] : List Core)), x4, v12.2)))
theorem leafF_tq (x4 : Int) (v7 : Int × l15Rd) (K : Int) (h : OkRd v7.2 K) (hK : K + 16 ≤ 1000000000) : TQ (leafF x4 v7) (fun r => OkRd r.2.2 (K + 16) ∧ r.1.w ≤ 17 ∧ r.1.fit) := by
  unfold leafF
  refine TQ.cond (fun _ => ?_) (fun _ => TQ.cond (fun _ => ?_) (fun _ => ?_))
  · refine TQ.bind (l1Some_tq 1 _ K h (by decide) (by simpa using hK)) (fun v hv => TQ.val ⟨by simpa using hv.1, ?_, core_fit (by decide) (by simp) hv.2.2 (by simp) trivial⟩)
    have := hv.2.1
    simp only [Core.w, Core.ws, List.length_nil]
    omega
  · exact TQ.bind (of_tq _ _ _ h (by omega) (by decide)) (fun w hw => TQ.val ⟨hw.1.mono (by omega), by simp [Core.w, Core.ws, Form.w, Form.ws], core_fit (nm_fit (by decide) hw.2) (by simp) (leaf_fit (by decide)) (by simp) trivial⟩)
  · exact TQ.bind (num_tq _ _ _ h (by omega) (by decide)) (fun w hw => TQ.val ⟨hw.1.mono (by omega), by simp [Core.w, Core.ws, Form.w, Form.ws], core_fit (by decide) (by simp) (leaf_fit (by decide)) (by simp) trivial⟩)
def leafV (x2 : List Int) (x4 : Int) (o1 : l15Rd) (fuel : Nat) : Option (Core × Int × l15Rd) :=
  (bif (decide (0 < (x2.length : Int))) then
 (m_spec_l15Rd_pick fuel o1 3).bind fun v3 =>
 (bif (decide (0 < v3.1)) then
 (m_spec_l15Rd_pick fuel v3.2 (x2.length : Int)).bind fun v5 =>
 (idx x2 v5.1).bind fun v6 =>
 some ((Core.mk 1 v6 (⟨#[]⟩ : ByteArray) 0 ([] : List Int) (Form.mk 0 (⟨#[]⟩ : ByteArray) 0 ([] : List Int) ([] : List Form)) ([] : List Core)), x4, v5.2)
 else
 (m_spec_l15Rd_pick fuel v3.2 4).bind fun v7 => leafF x4 v7 fuel)
 else
 (m_spec_l15Rd_pick fuel o1 4).bind fun v13 => leafF x4 v13 fuel)
theorem leafV_tq (x2 : List Int) (x4 : Int) (o : l15Rd) (K : Int) (h : OkRd o K) (hK : K + 20 ≤ 1000000000) : TQ (leafV x2 x4 o) (fun r => OkRd r.2.2 (K + 20) ∧ r.1.w ≤ 17 ∧ r.1.fit) := by
  unfold leafV
  refine TQ.cond (fun hc => ?_) (fun _ => ?_)
  · refine TQ.bind (pick_tq _ 3 _ h (by omega)) (fun v hv => ?_)
    refine TQ.cond (fun _ => ?_) (fun _ => ?_)
    · refine TQ.bind (pick_tq _ _ _ hv.1 (by omega)) (fun w hw => ?_)
      obtain ⟨h1, _, h2, _⟩ := hw
      obtain ⟨h2, h3⟩ := h2 (by simpa using hc)
      exact TQ.idx h2 h3 (fun x hx => TQ.val ⟨h1.mono (by omega), by simp [Core.w, Core.ws, Form.w, Form.ws], core_fit (by decide) (by simp) (leaf_fit (by decide)) (by simp) trivial⟩)
    · refine TQ.bind (pick_tq _ 4 _ hv.1 (by omega)) (fun w hw => ?_)
      exact (leafF_tq x4 w _ hw.1 (by omega)).mono (fun r hr => ⟨hr.1.mono (by omega), hr.2⟩)
  · refine TQ.bind (pick_tq _ 4 _ h (by omega)) (fun w hw => ?_)
    exact (leafF_tq x4 w _ hw.1 (by omega)).mono (fun r hr => ⟨hr.1.mono (by omega), hr.2⟩)
theorem l6Some_tq : ∀ (d : Nat) (o : l15Rd) (ids : List Int) (next : Int) (K : Int), OkRd o K → d ≤ 10 → ids.length + 2 * d ≤ 1000 → K + ((24 * 4 ^ d : Nat) : Int) ≤ 1000000000 → TQ (fun m => m_spec_l6Some m o ids (d : Int) next) (fun r => OkRd r.2.2 (K + ((24 * 4 ^ d : Nat) : Int)) ∧ r.1.w ≤ 24 * 4 ^ d ∧ r.1.fit) := by
  intro d
  induction d with
  | zero =>
    intro o ids next K h hd hids hK
    refine TQ.step (fun m => by rw [m_spec_l6Some]) ?_
    refine TQ.cond (fun hc => ?_) (fun hc => by simp at hc)
    exact (leafV_tq ids next o K h (by simp at hK; omega)).mono (fun r hr => ⟨hr.1.mono (by simp), by simp; omega, hr.2.2⟩)
  | succ d ih =>
    intro o ids next K h hd hids hK
    have p1 := pow4 d
    have p2 := pow4s d
    refine TQ.step (fun m => by rw [m_spec_l6Some]) ?_
    refine TQ.cond (fun hc => by exfalso; simp at hc; omega) (fun hc => ?_)
    refine TQ.bind (pick_tq o 4 K h (by omega)) (fun v hv => ?_)
    refine TQ.cond (fun _ => ?_) (fun _ => ?_)
    · exact (leafV_tq ids next v.2 _ hv.1 (by omega)).mono (fun r hr => ⟨hr.1.mono (by omega), by omega, hr.2.2⟩)
    have ed : w64 (((d + 1 : Nat) : Int) - 1) = (d : Int) := by rw [w64_in (by omega)]; omega
    have B0 : (0 : Int) ≤ ((24 * 4 ^ d : Nat) : Int) := by omega
    have mulS : ∀ j : Nat, ((j + 1 : Nat) : Int) * ((24 * 4 ^ d : Nat) : Int) = (j : Int) * ((24 * 4 ^ d : Nat) : Int) + ((24 * 4 ^ d : Nat) : Int) := fun j => by rw [Int.natCast_add, Int.add_mul]; simp
    have mulS' : ∀ j : Nat, (j + 1) * (1 + 24 * 4 ^ d) = j * (1 + 24 * 4 ^ d) + (1 + 24 * 4 ^ d) := fun j => by rw [Nat.add_mul]; omega
    have mul0 : ∀ j : Nat, 0 ≤ (j : Int) * ((24 * 4 ^ d : Nat) : Int) := fun j => Int.mul_nonneg (by omega) B0
    have mulL : ∀ j : Nat, j ≤ 3 → (j : Int) * ((24 * 4 ^ d : Nat) : Int) ≤ 3 * ((24 * 4 ^ d : Nat) : Int) := fun j hj => Int.mul_le_mul_of_nonneg_right (by omega) B0
    have mulL' : ∀ j : Nat, j ≤ 3 → j * (1 + 24 * 4 ^ d) ≤ 3 * (1 + 24 * 4 ^ d) := fun j hj => Nat.mul_le_mul_right _ hj
    refine TQ.bind (num_tq _ _ _ hv.1 (by omega) (by decide)) (fun v38 hv38 => ?_)
    obtain ⟨h38, hm38⟩ := hv38
    have hk38 : v38.1 ≠ 2 := by
      simp at hm38
      omega
    refine TQ.cond (fun _ => ?_) (fun _ => TQ.cond (fun _ => ?_) (fun _ => ?_))
    · -- a function
      have two : ∀ (g41 g46 : List Int) (g53 : Int) (b : List Int) (p : Int) (K' : Int), OkRd ⟨b, p⟩ K' → K' + ((24 * 4 ^ d : Nat) : Int) ≤ 1000000000 → g41.length + 2 * d ≤ 1000 → g46.length ≤ 3 →
          TQ (fun m => m_spec_l6Some_l2 m ((d + 1 : Nat) : Int) v38 g41 g46 g53 0 b p []) (fun r => OkRd r.2.2 (K' + ((24 * 4 ^ d : Nat) : Int)) ∧ r.1.w ≤ 6 + 24 * 4 ^ d ∧ r.1.fit) := by
        intro g41 g46 g53 b p K' hb hK' hg41 hg46
        refine TQ.step (fun m => by rw [m_spec_l6Some_l2, ed]) ?_
        refine TQ.cond (fun hc => ?_) (fun hc => by exfalso; simp at hc)
        refine TQ.bind (ih _ g41 g53 K' hb (by omega) hg41 hK') (fun v hv => ?_)
        refine TQ.chk (by simp) ?_
        refine TQ.step (fun m => by rw [m_spec_l6Some_l2]) ?_
        refine TQ.cond (fun hc => by exfalso; rw [w64_in (by omega)] at hc; simp at hc) (fun hc => TQ.val ⟨hv.1.mk', ?_, core_fit (by decide) (by omega) (leaf_fit (by decide)) (by simp) ⟨hv.2.2, trivial⟩⟩)
        have := hv.2.1
        simp only [Core.w, Core.ws, Form.w, Form.ws, List.length_nil, List.nil_append]
        omega
      refine TQ.bind (num_tq _ _ _ h38 (by omega) (by decide)) (fun v40 hv40 => ?_)
      obtain ⟨h40, hm40⟩ := hv40
      have one : ∀ (j : Nat) (g41 : List Int) (g42 : Int) (b : List Int) (p : Int) (g46 : List Int) (K' : Int), j ≤ 2 → OkRd ⟨b, p⟩ K' → K' + j + ((24 * 4 ^ d : Nat) : Int) ≤ 1000000000 → g41.length + j + 2 * d ≤ 1000 → g46.length + j ≤ 3 →
          TQ (fun m => m_spec_l6Some_l1 m ((d + 1 : Nat) : Int) v38 g41 g42 (j : Int) b p g46) (fun r => OkRd r.2.2 (K' + j + ((24 * 4 ^ d : Nat) : Int)) ∧ r.1.w ≤ 6 + 24 * 4 ^ d ∧ r.1.fit) := by
        intro j
        induction j with
        | zero =>
          intro g41 g42 b p g46 K' hj hb hK' h41 h46
          refine TQ.step (fun m => by rw [m_spec_l6Some_l1]) ?_
          refine TQ.cond (fun hc => by exfalso; simp at hc) (fun hc => ?_)
          exact (two g41 g46 g42 b p K' hb (by omega) (by omega) (by omega)).mono (fun r hr => ⟨hr.1.mono (by omega), hr.2⟩)
        | succ j ihj =>
          intro g41 g42 b p g46 K' hj hb hK' h41 h46
          refine TQ.step (fun m => by rw [m_spec_l6Some_l1]) ?_
          refine TQ.cond (fun hc => ?_) (fun hc => by exfalso; simp at hc; try omega)
          refine TQ.bind (num_tq _ _ _ hb (by omega) (by decide)) (fun v hv => ?_)
          refine TQ.chk (by simp; omega) (TQ.chk (by simp; omega) (TQ.chk (by simp; omega) ?_))
          have ew : w64 (((j + 1 : Nat) : Int) - 1) = (j : Int) := by rw [w64_in (by omega)]; omega
          rw [ew]
          exact (ihj _ _ _ _ _ _ (by omega) hv.1.mk' (by omega) (by simp; omega) (by simp; omega)).mono (fun r hr => ⟨hr.1.mono (by omega), hr.2⟩)
      have hj : v40.1 = ((1 : Nat) : Int) ∨ v40.1 = ((2 : Nat) : Int) ∨ v40.1 = ((0 : Nat) : Int) := by simpa using hm40
      rcases hj with e | e | e <;> rw [e]
      · exact (one 1 ids next _ _ [] _ (by omega) h40.mk' (by omega) (by omega) (by simp)).mono (fun r hr => ⟨hr.1.mono (by omega), by omega, hr.2.2⟩)
      · exact (one 2 ids next _ _ [] _ (by omega) h40.mk' (by omega) (by omega) (by simp)).mono (fun r hr => ⟨hr.1.mono (by omega), by omega, hr.2.2⟩)
      · exact (one 0 ids next _ _ [] _ (by omega) h40.mk' (by omega) (by omega) (by simp)).mono (fun r hr => ⟨hr.1.mono (by omega), by omega, hr.2.2⟩)
    · -- a call
      refine TQ.bind (num_tq _ _ _ h38 (by omega) (by decide)) (fun v63 hv63 => ?_)
      obtain ⟨h63, hm63⟩ := hv63
      have three : ∀ (N j : Nat) (g64 : Int) (b : List Int) (p : Int) (g68 : List Core) (K' : Int), v63.1 = ((N : Nat) : Int) → N ≤ 3 → j ≤ N → OkRd ⟨b, p⟩ K' → K' + (j : Int) * ((24 * 4 ^ d : Nat) : Int) ≤ 1000000000 → g68.length ≤ 3 - j → Core.fits g68 →
          TQ (fun m => m_spec_l6Some_l3 m ids ((d + 1 : Nat) : Int) v38 v63 g64 (((N - j : Nat)) : Int) b p g68) (fun r => OkRd r.2.2 (K' + (j : Int) * ((24 * 4 ^ d : Nat) : Int)) ∧ r.1.w ≤ 2 + Core.ws g68 + j * (1 + 24 * 4 ^ d) ∧ r.1.fit) := by
        intro N j
        induction j with
        | zero =>
          intro g64 b p g68 K' hN hN3 hj hb hK' hl hfl
          refine TQ.step (fun m => by rw [m_spec_l6Some_l3]) ?_
          refine TQ.cond (fun hc => by exfalso; rw [hN] at hc; simp at hc) (fun hc => TQ.val ⟨hb.mono (by simp), ?_, core_fit (by decide) (by simp) (leaf_fit (by decide)) (by omega) hfl⟩)
          simp only [Core.w, Form.w, Form.ws, List.length_nil]; omega
        | succ j ihj =>
          intro g64 b p g68 K' hN hN3 hj hb hK' hl hfl
          have m1 := mulS j
          have m2 := mulS' j
          have m3 := mul0 j
          refine TQ.step (fun m => by rw [m_spec_l6Some_l3, ed]) ?_
          refine TQ.cond (fun hc => ?_) (fun hc => by exfalso; rw [hN] at hc; simp at hc; omega)
          refine TQ.bind (ih _ ids g64 K' hb (by omega) (by omega) (by omega)) (fun v hv => ?_)
          refine TQ.chk (by simp; omega) ?_
          have ew : w64 (((N - (j + 1) : Nat) : Int) + 1) = ((N - j : Nat) : Int) := by rw [w64_in (by omega)]; omega
          rw [ew]
          refine (ihj _ _ _ _ _ hN hN3 (by omega) hv.1.mk' (by omega) (by simp; omega) (Core.fits_app hfl (core_one hv.2.2))).mono (fun r hr => ⟨hr.1.mono (by omega), ?_, hr.2.2⟩)
          have := hr.2.1
          rw [Core.ws_append] at this
          simp only [Core.ws] at this
          have hv2 := hv.2.1
          omega
      have hj : v63.1 = ((2 : Nat) : Int) ∨ v63.1 = ((1 : Nat) : Int) ∨ v63.1 = ((3 : Nat) : Int) := by simpa using hm63
      have fin : ∀ N : Nat, v63.1 = (N : Int) → N ≤ 3 → TQ (fun m => m_spec_l6Some_l3 m ids ((d + 1 : Nat) : Int) v38 v63 next 0 v63.2.b v63.2.p []) (fun r => OkRd r.2.2 (K + ((24 * 4 ^ (d + 1) : Nat) : Int)) ∧ r.1.w ≤ 24 * 4 ^ (d + 1) ∧ r.1.fit) := by
        intro N hN hN3
        have m1 := mulL N hN3
        have m2 := mulL' N hN3
        have := three N N next v63.2.b v63.2.p [] _ hN hN3 (Nat.le_refl _) h63.mk' (by omega) (by simp) trivial
        rw [Nat.sub_self] at this
        refine this.mono (fun r hr => ⟨hr.1.mono (by omega), ?_, hr.2.2⟩)
        have := hr.2.1
        simp only [Core.ws] at this
        omega
      rcases hj with e | e | e
      · exact fin 2 e (by omega)
      · exact fin 1 e (by omega)
      · exact fin 3 e (by omega)
    · -- a choice
      have four : ∀ (j : Nat) (g73 : Int) (b : List Int) (p : Int) (g77 : List Core) (K' : Int), j ≤ 3 → OkRd ⟨b, p⟩ K' → K' + (j : Int) * ((24 * 4 ^ d : Nat) : Int) ≤ 1000000000 → g77.length ≤ 3 - j → Core.fits g77 →
          TQ (fun m => m_spec_l6Some_l4 m ids ((d + 1 : Nat) : Int) v38 g73 (((3 - j : Nat)) : Int) b p g77) (fun r => OkRd r.2.2 (K' + (j : Int) * ((24 * 4 ^ d : Nat) : Int)) ∧ r.1.w ≤ 2 + Core.ws g77 + j * (1 + 24 * 4 ^ d) ∧ r.1.fit) := by
        intro j
        induction j with
        | zero =>
          intro g73 b p g77 K' hj hb hK' hl hfl
          refine TQ.step (fun m => by rw [m_spec_l6Some_l4]) ?_
          refine TQ.cond (fun hc => by exfalso; simp at hc) (fun hc => TQ.val ⟨hb.mono (by simp), ?_, core_fit (by decide) (by simp) (leaf_fit (by decide)) (by omega) hfl⟩)
          simp only [Core.w, Form.w, Form.ws, List.length_nil]; omega
        | succ j ihj =>
          intro g73 b p g77 K' hj hb hK' hl hfl
          have m1 := mulS j
          have m2 := mulS' j
          have m3 := mul0 j
          refine TQ.step (fun m => by rw [m_spec_l6Some_l4, ed]) ?_
          refine TQ.cond (fun hc => ?_) (fun hc => by exfalso; simp at hc; try omega)
          refine TQ.bind (ih _ ids g73 K' hb (by omega) (by omega) (by omega)) (fun v hv => ?_)
          refine TQ.chk (by simp; omega) ?_
          have ew : w64 (((3 - (j + 1) : Nat) : Int) + 1) = ((3 - j : Nat) : Int) := by rw [w64_in (by omega)]; omega
          rw [ew]
          refine (ihj _ _ _ _ _ (by omega) hv.1.mk' (by omega) (by simp; omega) (Core.fits_app hfl (core_one hv.2.2))).mono (fun r hr => ⟨hr.1.mono (by omega), ?_, hr.2.2⟩)
          have := hr.2.1
          rw [Core.ws_append] at this
          simp only [Core.ws] at this
          have hv2 := hv.2.1
          omega
      have m1 := mulL 3 (by omega)
      have m2 := mulL' 3 (by omega)
      refine (four 3 next v38.2.b v38.2.p [] _ (by omega) h38.mk' (by omega) (by simp) trivial).mono (fun r hr => ⟨hr.1.mono (by omega), ?_, hr.2.2⟩)
      have := hr.2.1
      simp only [Core.ws] at this
      omega
theorem Core.ws_set : ∀ (l : List Core) (i : Nat) (x : Core) (B : Nat), (∀ y, l[i]? = some y → x.w ≤ y.w + B) → Core.ws (l.set i x) ≤ Core.ws l + B
  | [], i, x, B, _ => by simp [Core.ws]
  | y :: l, 0, x, B, h => by
    have := h y rfl
    rw [List.set_cons_zero, Core.ws, Core.ws]; omega
  | y :: l, i + 1, x, B, h => by
    have := Core.ws_set l i x B (fun z hz => h z (by simpa using hz))
    rw [List.set_cons_succ, Core.ws, Core.ws]; omega
def mutL (v1 : Core) (o1 : l15Rd) (fuel : Nat) : Option (Core × l15Rd) :=
 (m_spec_l15Rd_pick fuel o1 12).bind fun v9 =>
 (bif (decide (v9.1 = 0)) then
 (m_spec_l15Rd_num fuel v9.2 [0, 8, 3, 6]).bind fun v11 =>
 some ((Core.mk v11.1 v1.id v1.name v1.n v1.ids v1.data v1.kids), v11.2)
 else
 (bif (decide (v9.1 = 1)) then
 (m_spec_l15Rd_num fuel v9.2 [0, 1, 1000, 2]).bind fun v13 =>
 some ((Core.mk v1.kind v13.1 v1.name v1.n v1.ids v1.data v1.kids), v13.2)
 else
 (bif (decide (v9.1 = 2)) then
 (m_spec_l15Rd_num fuel v9.2 [1, 900, 0]).bind fun v15 =>
 chk (decide ((v1.ids.length + [v15.1].length) * 8 ≤ 140737488355328)) <|
 some ((Core.mk v1.kind v1.id v1.name v1.n (v1.ids ++ [v15.1]) v1.data v1.kids), v15.2)
 else
 (bif (decide (v9.1 = 3)) then
 (m_spec_l15Rd_of fuel v9.2 [(⟨#[]⟩ : ByteArray), (⟨#[103]⟩ : ByteArray), (⟨#[65]⟩ : ByteArray)]).bind fun v18 =>
 some ((Core.mk v1.kind v1.id v18.1 v1.n v1.ids v1.data v1.kids), v18.2)
 else
 some (v1, v9.2)))))
theorem mutL_tq (v1 : Core) (o : l15Rd) (K : Int) (h : OkRd o K) (hK : K + 2 ≤ 1000000000) (hw : v1.w ≤ 2 ^ 36) : TQ (mutL v1 o) (fun r => OkRd r.2 (K + 2) ∧ r.1.w ≤ v1.w + 1 ∧ (v1.fit → r.1.fit)) := by
  have hk := v1.w_kids
  unfold mutL
  refine TQ.bind (pick_tq o 12 _ h (by omega)) (fun v hv => ?_)
  refine TQ.cond (fun _ => ?_) (fun _ => TQ.cond (fun _ => ?_) (fun _ => TQ.cond (fun _ => ?_) (fun _ => TQ.cond (fun _ => ?_) (fun _ => ?_))))
  · exact TQ.bind (num_tq _ _ _ hv.1 (by omega) (by decide)) (fun w hw => TQ.val ⟨hw.1.mono (by omega), by simp only [Core.w]; omega, fun hL => by obtain ⟨f1, f2, f3, f4, f5⟩ := hL.parts; exact core_fit f1 f2 f3 f4 f5⟩)
  · exact TQ.bind (num_tq _ _ _ hv.1 (by omega) (by decide)) (fun w hw => TQ.val ⟨hw.1.mono (by omega), by simp only [Core.w]; omega, fun hL => by obtain ⟨f1, f2, f3, f4, f5⟩ := hL.parts; exact core_fit f1 f2 f3 f4 f5⟩)
  · exact TQ.bind (num_tq _ _ _ hv.1 (by omega) (by decide)) (fun w hw => TQ.chk (by simp; omega) (TQ.val ⟨hw.1.mono (by omega), by simp only [Core.w, List.length_append, List.length_cons, List.length_nil]; omega, fun hL => by obtain ⟨f1, f2, f3, f4, f5⟩ := hL.parts; exact core_fit f1 (by simp; omega) f3 f4 f5⟩))
  · exact TQ.bind (of_tq _ _ _ hv.1 (by omega) (by decide)) (fun w hw => TQ.val ⟨hw.1.mono (by omega), by simp only [Core.w]; omega, fun hL => by obtain ⟨f1, f2, f3, f4, f5⟩ := hL.parts; exact core_fit (nm_fit (by decide) hw.2) f2 f3 f4 f5⟩)
  · exact TQ.val ⟨hv.1.mono (by omega), Nat.le_succ _, fun hL => hL⟩
theorem l6Mutate_tq : ∀ (n : Nat) (c : Core) (o : l15Rd) (K : Int), c.w ≤ n → OkRd o K → c.w ≤ 2 ^ 30 → K + 3 * c.w ≤ 100000000000 → K + 3 * c.w ≤ 1000000000 → TQ (fun m => m_spec_l6Mutate m o c) (fun r => OkRd r.2 (K + 3 * c.w) ∧ r.1.w ≤ c.w + 1 ∧ (c.fit → r.1.fit)) := by
  intro n
  induction n with
  | zero => intro c o K h; have := c.w_kids; omega
  | succ n ih =>
    intro c o K h ho hb hK hK2
    have hw := c.w_kids
    refine TQ.step (fun m => by rw [m_spec_l6Mutate]) ?_
    refine TQ.ev (l6Copy_tr _ c (Nat.le_refl _) (by omega)) ?_
    refine TQ.cond (fun hc => ?_) (fun _ => ?_)
    · have hpos : 0 < c.kids.length := by simpa using hc
      have hl := Core.ws_len c.kids
      refine TQ.bind (pick_tq o 2 _ ho (by omega)) (fun v hv => ?_)
      refine TQ.cond (fun _ => ?_) (fun _ => ?_)
      · refine TQ.bind (pick_tq _ _ _ hv.1 (by omega)) (fun w hw2 => ?_)
        obtain ⟨h1, _, h2, _⟩ := hw2
        obtain ⟨h2, h3⟩ := h2 (by omega)
        obtain ⟨x, hx, hm⟩ := idx_int h2 h3
        have hxw := Core.ws_mem hm
        have hx2 := (idx_some hx).2.2
        obtain ⟨r, hr, q1, q2, q3⟩ := ih x w.2 _ (by omega) h1 (by omega) (by omega) (by omega)
        refine ⟨_, Tr.idx hx (Tr.bind hr (Tr.idx hx Tr.val)), q1.mono (by omega), ?_, fun hL => by obtain ⟨f1, f2, f3, f4, f5⟩ := hL.parts; exact core_fit f1 f2 f3 (by rw [List.length_set]; exact f4) (Core.fits_set _ _ _ f5 (q3 (Core.fits_mem f5 hm)))⟩
        have := Core.ws_set c.kids w.1.toNat r.1 1 (fun y hy => by rw [hx2] at hy; cases hy; exact q2)
        simp only [Core.w]; omega
      · exact (mutL_tq c _ _ hv.1 (by omega) (by omega)).mono (fun r hr => ⟨hr.1.mono (by omega), hr.2⟩)
    · exact (mutL_tq c _ _ ho (by omega) (by omega)).mono (fun r hr => ⟨hr.1.mono (by omega), hr.2⟩)
theorem l6Draw_tq (code : List Int) (h : ∀ x ∈ code, 0 ≤ x ∧ x < 256) : TQ (fun m => m_spec_l6Draw m code) (fun c => c.w ≤ 2 ^ 20 ∧ c.fit) := by
  refine TQ.eq (fun m => by unfold m_spec_l6Draw; rfl) ?_
  refine TQ.bind (open_tq code h) (fun o ho => ?_)
  refine TQ.bind (num_tq _ _ _ ho (by omega) (by decide)) (fun v hv => ?_)
  obtain ⟨h1, hm⟩ := hv
  have hd : ∃ d : Nat, v.1 = (d : Int) ∧ d ≤ 4 := by
    have : v.1 = 3 ∨ v.1 = 4 ∨ v.1 = 2 := by simpa using hm
    rcases this with e | e | e
    · exact ⟨3, e, by omega⟩
    · exact ⟨4, e, by omega⟩
    · exact ⟨2, e, by omega⟩
  obtain ⟨d, hd, hd4⟩ := hd
  rw [hd]
  have hp : 4 ^ d ≤ 4 ^ 4 := Nat.pow_le_pow_right (by decide) hd4
  have e4 : (4 : Nat) ^ 4 = 256 := rfl
  refine TQ.bind (l6Some_tq d v.2 [] 0 _ h1 (by omega) (by simp; omega) (by omega)) (fun w hw => ?_)
  obtain ⟨h2, hw, hL⟩ := hw
  refine TQ.bind (pick_tq _ 8 _ h2 (by omega)) (fun u hu => ?_)
  refine TQ.cond (fun _ => ?_) (fun _ => TQ.val ⟨by omega, hL⟩)
  refine TQ.bind (l6Mutate_tq _ w.1 u.2 _ (Nat.le_refl _) hu.1 (by omega) (by omega) (by omega)) (fun y hy => ?_)
  refine TQ.bind (l6Mutate_tq _ y.1 y.2 _ (Nat.le_refl _) hy.1 (by omega) (by omega) (by omega)) (fun z hz => ?_)
  exact TQ.val ⟨by omega, hz.2.2 (hy.2.2 hL)⟩
theorem DrawCoreValid_tq (code : List Int) (h : ∀ x ∈ code, 0 ≤ x ∧ x < 256) : TQ (fun m => m_spec_DrawCoreValid m code) (fun c => c.w ≤ 2 ^ 20 ∧ c.fit) :=
  TQ.eq (fun m => by unfold m_spec_DrawCoreValid; rfl) (TQ.bind (l6Draw_tq code h) (fun v hv => TQ.val hv))
theorem okF_ids {c : Core} {ar : List Int} (h : c.okF ar = true) (hk : c.kind ≠ 5) : c.ids = [] := by
  rw [okF_eq, Bool.and_eq_true, Bool.and_eq_true] at h
  have h1 := h.2.1
  unfold Core.fl Core.fl1 Core.fl2 Core.fl3 at h1
  simp only [Bool.and_eq_true] at h1
  have h2 := h1.2.2.2.2
  unfold Core.fl4 at h2
  rw [decide_eq_false hk, cond_false] at h2
  have := of_decide_eq_true h2
  exact List.eq_nil_of_length_eq_zero (by omega)
end Go.Abs
end
section
set_option linter.unusedVariables false
set_option linter.unusedSimpArgs false
set_option maxHeartbeats 4000000
namespace Go.Abs
def findI (l : List Int) (x : Int) : Int := match l.reverse.findIdx? (fun y => decide (y = x)) with | some i => (i : Int) | none => -1
theorem findI_at {l : List Int} {x : Int} {i : Nat} (h : l.reverse.findIdx? (fun y => decide (y = x)) = some i) : findI l x = i := by unfold findI; rw [h]
theorem find_at : ∀ (q : List Int) (i : Nat) (x : Int), q.Nodup → q[i]? = some x → q.findIdx? (fun y => decide (y = x)) = some i
  | y :: q, 0, x, hn, h => by
    have : y = x := by simpa using h
    rw [List.findIdx?_cons, if_pos (decide_eq_true this)]
  | y :: q, i + 1, x, hn, h => by
    have h' : q[i]? = some x := by simpa using h
    have hy : y ≠ x := fun e => (List.nodup_cons.1 hn).1 (e ▸ List.mem_of_getElem? h')
    rw [List.findIdx?_cons, if_neg (by simpa using hy), find_at q i x (List.nodup_cons.1 hn).2 h']
    rfl
theorem findI_nodup {l : List Int} (hn : l.Nodup) {i : Nat} {x : Int} (h : l[i]? = some x) : findI l x = ((l.length - 1 - i : Nat) : Int) := by
  have hi := (List.getElem?_eq_some_iff.1 h).1
  refine findI_at (find_at l.reverse _ x (List.pairwise_reverse.2 (List.Pairwise.imp (fun h => Ne.symm h) hn)) ?_)
  rw [List.getElem?_reverse (by omega), show l.length - 1 - (l.length - 1 - i) = i by omega]
  exact h
mutual
noncomputable def Core.alk : Core → Core → List Int → List Int → Bool
  | .mk k i nm n ids data kids, b, l, r => decide (k = b.kind) && (decide (nm = b.name) && (decide (n = b.n) && (decide (ids.length = b.ids.length) && (same data b.data && (decide (kids.length = b.kids.length) && ((bif decide (k = 1) then decide (findI l i = findI r b.id) else true) && Core.alks kids b.kids (l ++ ids) (r ++ b.ids)))))))
noncomputable def Core.alks : List Core → List Core → List Int → List Int → Bool
  | [], _, _, _ => true
  | x :: xs, ys, l, r => match ys with
    | [] => false
    | y :: ys => x.alk y l r && Core.alks xs ys l r
end
theorem Core.alk_eq (a b : Core) (l r : List Int) : a.alk b l r = (decide (a.kind = b.kind) && (decide (a.name = b.name) && (decide (a.n = b.n) && (decide (a.ids.length = b.ids.length) && (same a.data b.data && (decide (a.kids.length = b.kids.length) && ((bif decide (a.kind = 1) then decide (findI l a.id = findI r b.id) else true) && Core.alks a.kids b.kids (l ++ a.ids) (r ++ b.ids)))))))) := by
  obtain ⟨a1, a2, a3, a4, a5, a6, a7⟩ := a; rw [Core.alk]; rfl
theorem drop_one {α : Type} {l : List α} {k : Nat} {x : α} (h : l[k]? = some x) : l.drop k = x :: l.drop (k + 1) := by
  obtain ⟨h1, h2⟩ := List.getElem?_eq_some_iff.1 h
  rw [List.drop_eq_getElem_cons h1, h2]
theorem loop_alk {xs ys : List Core} (hl : xs.length = ys.length) {l r : List Int} {L : Nat → Int → Option Bool} {E : Nat → Core → Core → Option Bool}
    (h0 : ∀ m k, L (m + 1) k = bif decide (k < (xs.length : Int)) then (idx xs k).bind fun a => (idx ys k).bind fun b => (E m a b).bind fun v => bif !v then some false else L m (k + 1) else some true)
    (hE : ∀ a ∈ xs, ∀ b ∈ ys, Tr (fun m => E m a b) (a.alk b l r)) : Tr (fun m => L m 0) (Core.alks xs ys l r) := by
  have key := drop_ind xs (fun k zs => Tr (fun m => L m (k : Int)) (Core.alks zs (ys.drop k) l r)) ?_ ?_ 0 (Nat.zero_le _)
  · simpa using key
  · refine Tr.step (fun m => by rw [h0, ltN_self, cond_false]) ?_
    rw [Core.alks]; exact Tr.val
  · intro k x zs hk hx hd ih
    obtain ⟨y, hy⟩ : ∃ y, ys[k]? = some y := ⟨ys[k]'(by omega), List.getElem?_eq_getElem _⟩
    rw [drop_one hy, Core.alks]
    refine Tr.step (fun m => by rw [h0, ltN hk, cond_true, idx_nat hx, Option.bind_some, idx_nat hy, Option.bind_some, succN]) ?_
    refine Tr.bind (hE x (List.mem_of_getElem? hx) y (List.mem_of_getElem? hy)) ?_
    cases x.alk y l r with
    | false => exact Tr.tt rfl Tr.val
    | true => exact Tr.ff rfl ih
structure AInv (m : Int → Option Int) (l r : List Int) : Prop where
  len : l.length = r.length
  nl : l.Nodup
  nr : r.Nodup
  at_ : ∀ (i : Nat) (x : Int), l[i]? = some x → m x = r[i]?
theorem AInv.nil : AInv map0 [] [] := ⟨rfl, List.nodup_nil, List.nodup_nil, fun i x h => by simp at h⟩
theorem AInv.get {m : Int → Option Int} {l r : List Int} (h : AInv m l r) {x : Int} (hx : x ∈ l) : ∃ (i : Nat) (y : Int), l[i]? = some x ∧ r[i]? = some y ∧ mapGet m x = y := by
  obtain ⟨i, hi⟩ := List.mem_iff_getElem?.1 hx
  have hl := (List.getElem?_eq_some_iff.1 hi).1
  have hr : r[i]? = some (r[i]'(by have := h.len; omega)) := List.getElem?_eq_getElem _
  refine ⟨i, _, hi, hr, ?_⟩
  unfold mapGet; rw [h.at_ i x hi, hr]; rfl
theorem AInv.var {m : Int → Option Int} {l r : List Int} (h : AInv m l r) {x y : Int} (hx : x ∈ l) (hy : y ∈ r) : decide (mapGet m x = y) = decide (findI l x = findI r y) := by
  obtain ⟨i, z, hi, hz, hm⟩ := h.get hx
  obtain ⟨j, hj⟩ := List.mem_iff_getElem?.1 hy
  have h1 := (List.getElem?_eq_some_iff.1 hi).1
  have h2 := (List.getElem?_eq_some_iff.1 hj).1
  have h3 := h.len
  rw [hm, findI_nodup h.nl hi, findI_nodup h.nr hj, Bool.eq_iff_iff, decide_eq_true_iff, decide_eq_true_iff]
  constructor
  · intro e
    have : i = j := by
      rw [e] at hz
      have := find_at r i y h.nr hz
      rw [find_at r j y h.nr hj] at this
      exact (Option.some.inj this).symm
    omega
  · intro e
    have : i = j := by omega
    subst this
    rw [hj] at hz; exact (Option.some.inj hz).symm
theorem AInv.add {m : Int → Option Int} {l r : List Int} (h : AInv m l r) {x y : Int} (hx : (l ++ [x]).Nodup) (hy : (r ++ [y]).Nodup) : AInv (mapSet m x y) (l ++ [x]) (r ++ [y]) := by
  refine ⟨by simp [h.len], hx, hy, fun i z hz => ?_⟩
  unfold mapSet
  have hlen := h.len
  by_cases hi : i < l.length
  · rw [List.getElem?_append_left hi] at hz
    rw [List.getElem?_append_left (by omega)]
    have : z ≠ x := fun e => by
      have h1 := (List.nodup_append.1 hx).2.2 z (List.mem_of_getElem? hz) x (by simp)
      exact h1 e
    rw [if_neg this]; exact h.at_ i z hz
  · rw [List.getElem?_append_right (by omega)] at hz
    rw [List.getElem?_append_right (by omega)]
    have h0 : i - l.length = 0 := by
      rcases Nat.eq_zero_or_pos (i - l.length) with h | h
      · exact h
      · rw [List.getElem?_eq_none (by simp; omega)] at hz; cases hz
    rw [h0] at hz
    have e : z = x := by simpa using hz.symm
    rw [if_pos e, show i - r.length = 0 by omega]; rfl
theorem hasB_iff {l : List Int} {x : Int} : hasB l x = true ↔ x ∈ l := by
  unfold hasB
  induction l with
  | nil => simp [anys]
  | cons y l ih => rw [anys, Bool.or_eq_true, ih, decide_eq_true_iff, List.mem_cons]; exact ⟨fun h => h.imp Eq.symm id, fun h => h.imp Eq.symm id⟩
theorem idsOk_nodup : ∀ (xs ar : List Int), ar.Nodup → idsOk ar xs = true → (ar ++ xs).Nodup
  | [], ar, h, _ => by simpa using h
  | x :: xs, ar, h, hk => by
    simp only [idsOk, Bool.and_eq_true, Bool.not_eq_true'] at hk
    have hx : x ∉ ar := fun hm => by rw [hasB_iff.2 hm] at hk; cases hk.2.1
    have : (ar ++ [x]).Nodup := List.nodup_append.2 ⟨h, by simp, fun a ha b hb e => hx (by simp only [List.mem_singleton] at hb; subst hb; subst e; exact ha)⟩
    have := idsOk_nodup xs (ar ++ [x]) this hk.2.2
    simpa using this
theorem okF_var {c : Core} {ar : List Int} (h : c.okF ar = true) (k : c.kind = 1) : c.id ∈ ar ∧ c.name = e0 ∧ c.n = 0 ∧ c.ids = [] ∧ c.data = form0 ∧ c.kids = [] := by
  rw [Core.okF, decide_eq_true k, cond_true] at h
  simp only [Bool.and_eq_true, decide_eq_true_eq, same_iff, lenI] at h
  obtain ⟨_, h1, h2, h3, h4, h5, h6⟩ := h
  exact ⟨hasB_iff.1 h1, h2, h3, h4, h5, List.eq_nil_of_length_eq_zero (by omega)⟩
theorem okF_fn {c : Core} {ar : List Int} (h : c.okF ar = true) (k : c.kind = 5) : idsOk ar c.ids = true ∧ c.name = e0 ∧ c.n = 0 ∧ c.data = form0 ∧ c.kids.length = 1 ∧ c.id = 0 := by
  unfold Core.okF at h
  simp only [k, Int.reduceEq, decide_true, decide_false, cond_true, cond_false, Bool.and_eq_true, decide_eq_true_eq, same_iff, lenI] at h
  obtain ⟨h1, h0, h2, h3, h4, h5⟩ := h
  exact ⟨h1, h2, h3, h4, by omega, h0⟩
theorem isOk_parts {c : Core} {ar : List Int} {d : Nat} (h : c.isOk ar d = true) : c.okF ar = true ∧ ∀ x ∈ c.kids, x.isOk (ar ++ c.ids) (d - 1) = true := by
  rw [Core.isOk_eq] at h
  by_cases hd : d = 0
  · rw [decide_eq_true hd] at h; cases h
  rw [decide_eq_false hd, cond_false, Bool.and_eq_true] at h
  exact ⟨h.1, alls_iff.1 h.2⟩
theorem alks_nil {l r : List Int} : Core.alks [] [] l r = true := by rw [Core.alks]
theorem alks_one {x y : Core} {l r : List Int} : Core.alks [x] [y] l r = x.alk y l r := by rw [Core.alks]; simp only [Core.alks, Bool.and_true]
theorem implAlike_n : ∀ (n : Nat) (a b : Core) (l r : List Int) (d e : Nat), a.w ≤ n → a.isOk l d = true → b.isOk r e = true →
    (∀ mp, AInv mp l r → Tr (fun m => m_impl_alike m a b mp) (a.alk b l r)) ∧ (l = [] → r = [] → Tr (fun m => m_impl_alike_n m a b) (a.alk b l r)) := by
  intro n
  induction n with
  | zero => intro a b l r d e h; have := a.w_pos; omega
  | succ n ih =>
    intro a b l r d e h ha hb
    have hw := a.w_kids
    obtain ⟨fa, ka⟩ := isOk_parts ha
    obtain ⟨fb, kb⟩ := isOk_parts hb
    have ids0 : a.kind ≠ 5 → b.kind ≠ 5 → a.ids = [] ∧ b.ids = [] := fun h1 h2 => ⟨okF_ids fa h1, okF_ids fb h2⟩
    -- a function
    have fn : ∀ mp, AInv mp l r → a.kind = 5 → b.kind = 5 → a.ids.length = b.ids.length → a.kids.length = b.kids.length → Tr (fun m => m_impl_alike_l3 m a b 0 mp) (Core.alks a.kids b.kids (l ++ a.ids) (r ++ b.ids)) := by
      intro mp hI k5 k5' hil hkl
      obtain ⟨i1, _, _, _, q1, _⟩ := okF_fn fa k5
      obtain ⟨i2, _, _, _, q2, _⟩ := okF_fn fb k5'
      have n1 := idsOk_nodup _ _ hI.nl i1
      have n2 := idsOk_nodup _ _ hI.nr i2
      obtain ⟨x, hx⟩ := List.length_eq_one_iff.1 q1
      obtain ⟨y, hy⟩ := List.length_eq_one_iff.1 q2
      have key := drop_ind a.ids (fun k zs => ∀ g, AInv g (l ++ a.ids.take k) (r ++ b.ids.take k) → Tr (fun m => m_impl_alike_l3 m a b (k : Int) g) (Core.alks a.kids b.kids (l ++ a.ids) (r ++ b.ids))) ?_ ?_ 0 (Nat.zero_le _) mp (by simpa using hI)
      · simpa using key
      · intro g hg
        rw [List.take_length, hil, List.take_length] at hg
        refine Tr.step (fun m => by rw [m_impl_alike_l3, ltN_self, cond_false]) (Tr.step (fun m => by rw [m_impl_alike_j2]) ?_)
        rw [hx, hy, alks_one]
        have := (ih x y (l ++ a.ids) (r ++ b.ids) (d - 1) (e - 1) (by have := Core.ws_mem (show x ∈ a.kids by rw [hx]; simp); omega) (ka x (by rw [hx]; simp)) (kb y (by rw [hy]; simp))).1 g hg
        exact Tr.idx (idx_nat (k := 0) (by simp)) (Tr.idx (idx_nat (k := 0) (by simp)) (Tr.bind this Tr.val))
      · intro k x zs hk hx hd ihk g hg
        obtain ⟨y, hy⟩ : ∃ y, b.ids[k]? = some y := ⟨b.ids[k]'(by omega), List.getElem?_eq_getElem _⟩
        refine Tr.step (fun m => by rw [m_impl_alike_l3, ltN hk, cond_true, idx_nat hx, Option.bind_some, idx_nat hy, Option.bind_some, succN]) (ihk _ ?_)
        have t1 : l ++ a.ids.take (k + 1) = (l ++ a.ids.take k) ++ [x] := by rw [List.take_add_one, hx, List.append_assoc]; rfl
        have t2 : r ++ b.ids.take (k + 1) = (r ++ b.ids.take k) ++ [y] := by rw [List.take_add_one, hy, List.append_assoc]; rfl
        rw [t1, t2]
        refine hg.add ?_ ?_
        · rw [← t1]; exact n1.sublist (List.Sublist.append_left (List.take_sublist _ _) _)
        · rw [← t2]; exact n2.sublist (List.Sublist.append_left (List.take_sublist _ _) _)
    rw [Core.alk_eq]
    constructor
    · intro mp hI
      have stop : Tr (fun m => m_impl_alike_j1 m a b mp true) false := Tr.step (fun m => by rw [m_impl_alike_j1, cond_true]) Tr.val
      refine Tr.step (fun m => by rw [m_impl_alike]) ?_
      by_cases h1 : a.kind = b.kind
      case neg => rw [decide_eq_false h1]; exact Tr.tt (decide_eq_true h1) stop
      refine Tr.ff (decide_eq_false (fun h => h h1)) ?_
      by_cases h5 : a.kids.length = b.kids.length
      case neg => rw [decide_eq_false h5]; simp only [Bool.false_and, Bool.and_false]; exact Tr.tt (lenB h5) stop
      refine Tr.ff (lenE h5) ?_
      by_cases h4 : a.ids.length = b.ids.length
      case neg => rw [decide_eq_false h4]; simp only [Bool.false_and, Bool.and_false]; exact Tr.eq (fun m => by rw [lenB h4]) stop
      refine Tr.eq (fun m => by rw [lenE h4]) (Tr.step (fun m => by rw [m_impl_alike_j1, cond_false]) ?_)
      rw [decide_eq_true h1, decide_eq_true h4, decide_eq_true h5]
      by_cases k1 : a.kind = 1
      · obtain ⟨q1, q2, q3, q4, q5, q6⟩ := okF_var fa k1
        obtain ⟨p1, p2, p3, p4, p5, p6⟩ := okF_var fb (h1 ▸ k1)
        refine Tr.tt (decide_eq_true k1) ?_
        rw [q2, p2, q3, p3, q5, p5, q6, p6, same_self, decide_eq_true k1, cond_true, alks_nil, hI.var q1 p1]
        exact Tr.of (fun m => by simp)
      refine Tr.ff (decide_eq_false k1) ?_
      rw [decide_eq_false k1, cond_false]
      by_cases k5 : a.kind = 5
      · obtain ⟨_, q2, q3, q4, _, _⟩ := okF_fn fa k5
        obtain ⟨_, p2, p3, p4, _, _⟩ := okF_fn fb (h1 ▸ k5)
        refine Tr.tt (decide_eq_true k5) ?_
        rw [q2, p2, q3, p3, q4, p4, same_self]
        simpa using fn mp hI k5 (h1 ▸ k5) h4 h5
      refine Tr.ff (decide_eq_false k5) ?_
      obtain ⟨e1, e2⟩ := ids0 k5 (h1 ▸ k5)
      have stop4 : Tr (fun m => m_impl_alike_j4 m a b mp true) false := Tr.step (fun m => by rw [m_impl_alike_j4, cond_true]) Tr.val
      by_cases h2 : a.name = b.name
      case neg => rw [decide_eq_false h2]; exact Tr.tt (decide_eq_true h2) stop4
      refine Tr.ff (decide_eq_false (fun h => h h2)) ?_
      by_cases h3 : a.n = b.n
      case neg => rw [decide_eq_false h3]; simp only [Bool.false_and, Bool.and_false]; exact Tr.tt (decide_eq_true h3) stop4
      refine Tr.ff (decide_eq_false (fun h => h h3)) (Tr.bind (implFormSame_tr _ _) ?_)
      rw [decide_eq_true h2, decide_eq_true h3]
      cases same a.data b.data with
      | false => exact stop4
      | true =>
      refine Tr.step (fun m => by rw [Bool.not_true, m_impl_alike_j4, cond_false]) ?_
      simp only [Bool.true_and]
      rw [e1, e2, List.append_nil, List.append_nil]
      rw [e1, List.append_nil] at ka
      rw [e2, List.append_nil] at kb
      exact loop_alk h5 (L := fun m k => m_impl_alike_l5 m a b mp k) (E := fun m x y => m_impl_alike m x y mp) (fun m k => by rw [m_impl_alike_l5]) (fun x hx y hy => (ih x y l r (d - 1) (e - 1) (by have := Core.ws_mem hx; omega) (ka x hx) (kb y hy)).1 mp hI)
    · rintro rfl rfl
      have stop : Tr (fun m => m_impl_alike_n_j1 m a b true) false := Tr.step (fun m => by rw [m_impl_alike_n_j1, cond_true]) Tr.val
      refine Tr.step (fun m => by rw [m_impl_alike_n]) ?_
      by_cases h1 : a.kind = b.kind
      case neg => rw [decide_eq_false h1]; exact Tr.tt (decide_eq_true h1) stop
      refine Tr.ff (decide_eq_false (fun h => h h1)) ?_
      by_cases h5 : a.kids.length = b.kids.length
      case neg => rw [decide_eq_false h5]; simp only [Bool.false_and, Bool.and_false]; exact Tr.tt (lenB h5) stop
      refine Tr.ff (lenE h5) ?_
      by_cases h4 : a.ids.length = b.ids.length
      case neg => rw [decide_eq_false h4]; simp only [Bool.false_and, Bool.and_false]; exact Tr.eq (fun m => by rw [lenB h4]) stop
      refine Tr.eq (fun m => by rw [lenE h4]) (Tr.step (fun m => by rw [m_impl_alike_n_j1, cond_false]) ?_)
      rw [decide_eq_true h1, decide_eq_true h4, decide_eq_true h5]
      by_cases k1 : a.kind = 1
      · exact absurd (okF_var fa k1).1 (by simp)
      refine Tr.ff (decide_eq_false k1) ?_
      rw [decide_eq_false k1, cond_false]
      by_cases k5 : a.kind = 5
      · obtain ⟨_, q2, q3, q4, _, _⟩ := okF_fn fa k5
        obtain ⟨_, p2, p3, p4, _, _⟩ := okF_fn fb (h1 ▸ k5)
        refine Tr.tt (decide_eq_true k5) ?_
        rw [q2, p2, q3, p3, q4, p4, same_self]
        simpa using fn map0 AInv.nil k5 (h1 ▸ k5) h4 h5
      refine Tr.ff (decide_eq_false k5) ?_
      obtain ⟨e1, e2⟩ := ids0 k5 (h1 ▸ k5)
      have stop4 : Tr (fun m => m_impl_alike_n_j4 m a b true) false := Tr.step (fun m => by rw [m_impl_alike_n_j4, cond_true]) Tr.val
      by_cases h2 : a.name = b.name
      case neg => rw [decide_eq_false h2]; exact Tr.tt (decide_eq_true h2) stop4
      refine Tr.ff (decide_eq_false (fun h => h h2)) ?_
      by_cases h3 : a.n = b.n
      case neg => rw [decide_eq_false h3]; simp only [Bool.false_and, Bool.and_false]; exact Tr.tt (decide_eq_true h3) stop4
      refine Tr.ff (decide_eq_false (fun h => h h3)) (Tr.bind (implFormSame_tr _ _) ?_)
      rw [decide_eq_true h2, decide_eq_true h3]
      cases same a.data b.data with
      | false => exact stop4
      | true =>
      refine Tr.step (fun m => by rw [Bool.not_true, m_impl_alike_n_j4, cond_false]) ?_
      simp only [Bool.true_and]
      rw [e1, e2, List.append_nil]
      rw [e1, List.append_nil] at ka
      rw [e2, List.append_nil] at kb
      exact loop_alk h5 (L := fun m k => m_impl_alike_n_l5 m a b k) (E := fun m x y => m_impl_alike_n m x y) (fun m k => by rw [m_impl_alike_n_l5]) (fun x hx y hy => (ih x y [] [] (d - 1) (e - 1) (by have := Core.ws_mem hx; omega) (ka x hx) (kb y hy)).2 rfl rfl)
noncomputable def Core.like (a b : Core) : Bool := a.valid && (b.valid && a.alk b [] [])
theorem valid_isOk {c : Core} (h : c.valid = true) : c.isOk [] 120 = true := by unfold Core.valid at h; rw [Bool.and_eq_true] at h; exact h.1
theorem implCoreAlike_tr (a b : Core) (ha : a.fit) (hb : b.fit) (hwa : a.w ≤ 2 ^ 36) (hwb : b.w ≤ 2 ^ 36) : Tr (fun m => m_impl_CoreAlike m a b) (a.like b) := by
  refine Tr.eq (fun m => by unfold m_impl_CoreAlike; rfl) (Tr.bind (implCoreValid_tr a ha hwa) ?_)
  unfold Core.like
  cases h1 : a.valid with
  | false => exact Tr.ff rfl Tr.val
  | true =>
  refine Tr.tt rfl (Tr.bind (implCoreValid_tr b hb hwb) ?_)
  cases h2 : b.valid with
  | false => exact Tr.ff rfl Tr.val
  | true => exact Tr.tt rfl (Tr.bind ((implAlike_n _ a b [] [] 120 120 (Nat.le_refl _) (valid_isOk h1) (valid_isOk h2)).2 rfl rfl) Tr.val)
end Go.Abs
end
section
set_option linter.unusedVariables false
set_option linter.unusedSimpArgs false
set_option maxHeartbeats 4000000
namespace Go.Abs
mutual
def Core.allI : Core → List Int
  | .mk _ _ _ _ ids _ kids => ids ++ Core.allIs kids
def Core.allIs : List Core → List Int
  | [] => []
  | x :: xs => x.allI ++ Core.allIs xs
end
theorem Core.allI_eq (a : Core) : a.allI = a.ids ++ Core.allIs a.kids := by obtain ⟨a1, a2, a3, a4, a5, a6, a7⟩ := a; rw [Core.allI]; rfl
end Go.Abs
end
section
set_option linter.unusedVariables false
set_option linter.unusedSimpArgs false
set_option maxHeartbeats 4000000
namespace Go.Abs
theorem alks_cons {x y : Core} {xs ys : List Core} {l r : List Int} : Core.alks (x :: xs) (y :: ys) l r = (x.alk y l r && Core.alks xs ys l r) := by rw [Core.alks]
end Go.Abs
end
section
set_option linter.unusedVariables false
set_option linter.unusedSimpArgs false
set_option maxHeartbeats 4000000
namespace Go.Abs
theorem mxInC_tr (l : List Int) (i : Int) : Tr (fun m => m_laws_mxIn m l i) (anys (fun a => decide (a = i)) l) := by
  refine Tr.eq (fun m => by unfold m_laws_mxIn; rfl) ?_
  exact loop_any (xs := l) (L := fun m k => m_laws_mxIn_l1 m l i k) (E := fun m a => some (decide (a = i))) (fun m k => by rw [m_laws_mxIn_l1]; rfl) (fun a _ => Tr.val)
theorem coreHas_n (i : Int) : ∀ (n : Nat) (a : Core), a.w ≤ n → Tr (fun m => m_laws_mxCoreHas m a i) (decide (i ∈ a.allI)) := by
  intro n
  induction n with
  | zero => intro a h; have := a.w_pos; omega
  | succ n ih =>
    intro a h
    have hw := a.w_kids
    refine Tr.step (fun m => by rw [m_laws_mxCoreHas]) (Tr.bind (mxInC_tr a.ids i) ?_)
    have e : anys (fun a => decide (a = i)) a.ids = decide (i ∈ a.ids) := by
      have := @hasB_iff a.ids i
      unfold hasB at this
      rw [Bool.eq_iff_iff, this, decide_eq_true_iff]
    rw [e]
    by_cases h1 : i ∈ a.ids
    · rw [decide_eq_true h1, decide_eq_true (show i ∈ a.allI by rw [Core.allI_eq]; exact List.mem_append_left _ h1)]
      exact Tr.tt rfl Tr.val
    rw [decide_eq_false h1]
    refine Tr.ff rfl ?_
    have e2 : decide (i ∈ a.allI) = decide (i ∈ Core.allIs a.kids) := by
      rw [Core.allI_eq]
      exact decide_eq_decide.2 ⟨fun h => (List.mem_append.1 h).resolve_left h1, fun h => List.mem_append_right _ h⟩
    rw [e2]
    have key := drop_ind a.kids (fun k zs => Tr (fun m => m_laws_mxCoreHas_l1 m a i (k : Int)) (decide (i ∈ Core.allIs zs))) ?_ ?_ 0 (Nat.zero_le _)
    · exact key
    · refine Tr.step (fun m => by rw [m_laws_mxCoreHas_l1, ltN_self, cond_false]) ?_
      rw [decide_eq_false (by simp [Core.allIs])]; exact Tr.val
    · intro k x zs hk hx hd ihk
      have hxw := Core.ws_mem (List.mem_of_getElem? hx)
      refine Tr.step (fun m => by rw [m_laws_mxCoreHas_l1, ltN hk, cond_true, idx_nat hx, Option.bind_some, succN]) (Tr.bind (ih x (by omega)) ?_)
      rw [Core.allIs]
      by_cases h2 : i ∈ x.allI
      · rw [decide_eq_true h2, decide_eq_true (List.mem_append_left _ h2)]; exact Tr.tt rfl Tr.val
      · rw [decide_eq_false h2, decide_eq_decide.2 (show i ∈ x.allI ++ Core.allIs zs ↔ i ∈ Core.allIs zs from ⟨fun h => (List.mem_append.1 h).resolve_left h2, fun h => List.mem_append_right _ h⟩)]
        exact Tr.ff rfl ihk
mutual
def Core.dep : Core → Nat
  | .mk _ _ _ _ _ _ kids => Core.deps kids + 1
def Core.deps : List Core → Nat
  | [] => 0
  | x :: xs => max x.dep (Core.deps xs)
end
theorem Core.dep_eq (a : Core) : a.dep = Core.deps a.kids + 1 := by obtain ⟨a1, a2, a3, a4, a5, a6, a7⟩ := a; rw [Core.dep]; rfl
mutual
theorem Core.dep_w : ∀ f : Core, f.dep ≤ f.w
  | .mk a b c d e f g => by have := Core.deps_ws g; rw [Core.dep, Core.w]; omega
theorem Core.deps_ws : ∀ l : List Core, Core.deps l ≤ Core.ws l
  | [] => by simp [Core.deps]
  | f :: fs => by have := Core.dep_w f; have := Core.deps_ws fs; rw [Core.deps, Core.ws]; omega
end
theorem Core.deps_mem : ∀ {l : List Core} {x : Core}, x ∈ l → x.dep ≤ Core.deps l
  | y :: l, x, h => by
    rw [Core.deps]
    rcases List.mem_cons.1 h with rfl | h
    · omega
    · have := Core.deps_mem h; omega
theorem mxDeep_n : ∀ (n : Nat) (f : Core), f.w ≤ n → f.w ≤ 2 ^ 36 → Tr (fun m => m_laws_mxDeep m f) (f.dep : Int) := by
  intro n
  induction n with
  | zero => intro a h; have := a.w_pos; omega
  | succ n ih =>
    intro f h hb
    have hw := f.w_kids
    have hdw := Core.deps_ws f.kids
    refine Tr.step (fun m => by rw [m_laws_mxDeep]) ?_
    have key := drop_ind f.kids (fun k zs => ∀ g : Nat, g ≤ 2 ^ 37 → Core.deps zs ≤ 2 ^ 37 → Tr (fun m => m_laws_mxDeep_l1 m f (g : Int) (k : Int)) ((max g (Core.deps zs) + 1 : Nat) : Int)) ?_ ?_ 0 (Nat.zero_le _) 0 (by omega) (by simp; omega)
    · rw [Core.dep_eq]; simpa using key
    · intro g hg _
      refine Tr.step (fun m => by rw [m_laws_mxDeep_l1, ltN_self, cond_false, w64_in (by omega)]) ?_
      rw [Core.deps]
      exact Tr.of (fun m => by congr 1; omega)
    · intro k x zs hk hx hd ihk g hg hz
      have hm := List.mem_of_getElem? hx
      have hxw := Core.ws_mem hm
      have hxd := x.dep_w
      rw [Core.deps] at hz
      refine Tr.step (fun m => by rw [m_laws_mxDeep_l1, ltN hk, cond_true, idx_nat hx, Option.bind_some, succN]) (Tr.bind (ih x (by omega) (by omega)) ?_)
      rw [Core.deps]
      by_cases hlt : g < x.dep
      · refine Tr.tt (ltN hlt) ?_
        have := ihk x.dep (by omega) (by omega)
        rwa [show max x.dep (Core.deps zs) = max g (max x.dep (Core.deps zs)) by omega] at this
      · refine Tr.ff (geN hlt) ?_
        have := ihk g hg (by omega)
        rwa [show max g (Core.deps zs) = max g (max x.dep (Core.deps zs)) by omega] at this
theorem coreSize_n : ∀ (n : Nat) (f : Core), f.w ≤ n → f.w ≤ 2 ^ 36 → Tr (fun m => m_impl_CoreSize m f) (f.cnt : Int) := by
  intro n
  induction n with
  | zero => intro a h; have := a.w_pos; omega
  | succ n ih =>
    intro f h hb
    have hw := f.w_kids
    have hc := Core.cnts_ws f.kids
    refine Tr.step (fun m => by rw [m_impl_CoreSize]) ?_
    have key := drop_ind f.kids (fun k zs => ∀ g : Nat, g + Core.ws zs ≤ 2 ^ 37 → Tr (fun m => m_impl_CoreSize_l1 m f (g : Int) (k : Int)) ((g + Core.cnts zs : Nat) : Int)) ?_ ?_ 0 (Nat.zero_le _) 1 (by simp; omega)
    · rw [Core.cnt_eq]; simpa using key
    · intro g hg
      exact Tr.step (fun m => by rw [m_impl_CoreSize_l1, ltN_self, cond_false]; simp [Core.cnts]) Tr.val
    · intro k x zs hk hx hd ihk g hg
      have hm := List.mem_of_getElem? hx
      have hxw := Core.ws_mem hm
      have hcx := Core.cnt_w x
      rw [Core.ws] at hg
      refine Tr.step (fun m => by rw [m_impl_CoreSize_l1, ltN hk, cond_true, idx_nat hx, Option.bind_some, succN]) ?_
      refine Tr.bind (ih x (by omega) (by omega)) ?_
      refine Tr.eq (fun m => by rw [w64_in (by omega), show (g : Int) + (x.cnt : Int) = ((g + x.cnt : Nat) : Int) by omega]) ?_
      rw [Core.cnts, ← Nat.add_assoc]
      exact ihk _ (by omega)
theorem alks_cnt_of {l r : List Int} : ∀ xs ys : List Core, xs.length = ys.length → (∀ x ∈ xs, ∀ y, x.alk y l r = true → x.cnt = y.cnt) → Core.alks xs ys l r = true → Core.cnts xs = Core.cnts ys
  | [], [], _, _, _ => rfl
  | [], y :: ys, h, _, _ => by simp at h
  | x :: xs, [], h, _, _ => by simp at h
  | x :: xs, y :: ys, h, ih, hk => by
    rw [alks_cons, Bool.and_eq_true] at hk
    rw [Core.cnts, Core.cnts, ih x (by simp) y hk.1, alks_cnt_of xs ys (by simpa using h) (fun z hz => ih z (by simp [hz])) hk.2]
theorem alk_cnt : ∀ (n : Nat) (a b : Core) (l r : List Int), a.w ≤ n → a.alk b l r = true → a.cnt = b.cnt := by
  intro n
  induction n with
  | zero => intro a b l r h; have := a.w_pos; omega
  | succ n ih =>
    intro a b l r h hk
    have hw := a.w_kids
    rw [Core.alk_eq] at hk
    simp only [Bool.and_eq_true, decide_eq_true_eq] at hk
    obtain ⟨_, _, _, _, _, h5, _, h6⟩ := hk
    rw [a.cnt_eq, b.cnt_eq, alks_cnt_of a.kids b.kids h5 (fun x hx y hy => ih x y _ _ (by have := Core.ws_mem hx; omega) hy) h6]
theorem idsOk_front : ∀ (xs ar : List Int), (998 : Int) ∉ xs → idsOk ar xs = true → idsOk (998 :: ar) xs = true
  | [], ar, _, _ => by rw [idsOk]
  | x :: xs, ar, h, hk => by
    simp only [idsOk, Bool.and_eq_true, Bool.not_eq_true'] at hk ⊢
    refine ⟨hk.1, ?_, idsOk_front xs (ar ++ [x]) (fun hm => h (by simp [hm])) hk.2.2⟩
    cases hb : hasB (998 :: ar) x with
    | false => rfl
    | true =>
      exfalso
      rcases List.mem_cons.1 (hasB_iff.1 hb) with e | e
      · exact h (by rw [e]; simp)
      · rw [hasB_iff.2 e] at hk; cases hk.2.1
theorem okF_front {c : Core} {ar : List Int} (h : c.okF ar = true) (h2 : (998 : Int) ∉ c.ids) : c.okF (998 :: ar) = true := by
  rw [okF_eq] at h ⊢
  rw [Bool.and_eq_true, Bool.and_eq_true, Bool.and_eq_true] at h ⊢
  refine ⟨h.1, h.2.1, ?_, idsOk_front _ _ h2 h.2.2.2⟩
  have h3 := h.2.2.1
  by_cases k1 : c.kind = 1
  · rw [decide_eq_true k1, cond_true] at h3 ⊢
    exact hasB_iff.2 (List.mem_cons_of_mem _ (hasB_iff.1 h3))
  · rw [decide_eq_false k1]; rfl
theorem allIs_mem : ∀ {l : List Core} {x : Core} {i : Int}, x ∈ l → i ∈ x.allI → i ∈ Core.allIs l
  | y :: l, x, i, h, hi => by
    rw [Core.allIs]
    rcases List.mem_cons.1 h with rfl | h
    · exact List.mem_append_left _ hi
    · exact List.mem_append_right _ (allIs_mem h hi)
theorem isOk_front : ∀ (n : Nat) (c : Core) (ar : List Int) (d e : Nat), c.w ≤ n → c.isOk ar d = true → (998 : Int) ∉ c.allI → c.dep ≤ e → c.isOk (998 :: ar) e = true := by
  intro n
  induction n with
  | zero => intro c ar d e h; have := c.w_pos; omega
  | succ n ih =>
    intro c ar d e h hk hno hd
    have hw := c.w_kids
    have hde := c.dep_eq
    obtain ⟨fa, ka⟩ := isOk_parts hk
    rw [Core.allI_eq, List.mem_append] at hno
    rw [Core.isOk_eq, decide_eq_false (by omega), cond_false, Bool.and_eq_true]
    refine ⟨okF_front fa (fun h => hno (.inl h)), alls_iff.2 (fun x hx => ?_)⟩
    rw [List.cons_append]
    exact ih x (ar ++ c.ids) (d - 1) (e - 1) (by have := Core.ws_mem hx; omega) (ka x hx) (fun h => hno (.inr (allIs_mem hx h))) (by have := Core.deps_mem hx; omega)
abbrev wrapC (c : Core) : Core := Core.mk 5 0 (⟨#[]⟩ : ByteArray) 0 [998] (Form.mk 0 (⟨#[]⟩ : ByteArray) 0 ([] : List Int) ([] : List Form)) [c]
abbrev twoC (c : Core) : Core := Core.mk 6 0 (⟨#[]⟩ : ByteArray) 0 ([] : List Int) (Form.mk 0 (⟨#[]⟩ : ByteArray) 0 ([] : List Int) ([] : List Form)) [wrapC c, wrapC c]
theorem wrap_ok {c : Core} {d e : Nat} (h : c.isOk [] d = true) (hno : (998 : Int) ∉ c.allI) (hd : c.dep + 1 ≤ e) : (wrapC c).isOk [] e = true := by
  rw [Core.isOk_eq, decide_eq_false (by omega), cond_false, Bool.and_eq_true]
  refine ⟨?_, alls_iff.2 (fun x hx => ?_)⟩
  · unfold Core.okF
    show (bif decide ((5 : Int) = 1) then _ else _) = true
    simp only [wrapC, Core.kind, Core.ids, Core.id, Core.name, Core.n, Core.data, Core.kids, Int.reduceEq, decide_true, decide_false, cond_true, cond_false, Bool.true_and, Bool.and_true, lenI]
    rw [show same (Form.mk 0 (⟨#[]⟩ : ByteArray) 0 ([] : List Int) ([] : List Form)) form0 = true from same_self _]
    rfl
  · have : x = c := List.mem_singleton.1 (show x ∈ [c] from hx)
    subst this
    exact isOk_front _ x [] d (e - 1) (Nat.le_refl _) h hno (by omega)
theorem wrap_cnt (c : Core) : (wrapC c).cnt = c.cnt + 1 := by rw [Core.cnt_eq]; show 1 + Core.cnts [c] = _; simp only [Core.cnts]; omega
theorem two_cnt (c : Core) : (twoC c).cnt = 2 * c.cnt + 3 := by rw [Core.cnt_eq]; show 1 + Core.cnts [wrapC c, wrapC c] = _; simp only [Core.cnts, wrap_cnt]; omega
theorem wrap_valid {c : Core} (h : c.valid = true) (hno : (998 : Int) ∉ c.allI) (hd : c.dep ≤ 100) (hc : c.cnt ≤ 290) : (wrapC c).valid = true := by
  unfold Core.valid
  rw [Bool.and_eq_true]
  exact ⟨wrap_ok (valid_isOk h) hno (by omega), decide_eq_true (by rw [wrap_cnt]; omega)⟩
theorem two_valid {c : Core} (h : c.valid = true) (hno : (998 : Int) ∉ c.allI) (hd : c.dep ≤ 100) (hc : c.cnt ≤ 290) : (twoC c).valid = true := by
  unfold Core.valid
  rw [Bool.and_eq_true]
  refine ⟨?_, decide_eq_true (by rw [two_cnt]; omega)⟩
  rw [Core.isOk_eq, decide_eq_false (by omega), cond_false, Bool.and_eq_true]
  refine ⟨?_, alls_iff.2 (fun x hx => ?_)⟩
  · unfold Core.okF
    show (bif decide ((6 : Int) = 1) then _ else _) = true
    simp only [twoC, Core.kind, Core.ids, Core.id, Core.name, Core.n, Core.data, Core.kids, Int.reduceEq, decide_true, decide_false, cond_true, cond_false, Bool.true_and, Bool.and_true, lenI]
    rw [show same (Form.mk 0 (⟨#[]⟩ : ByteArray) 0 ([] : List Int) ([] : List Form)) form0 = true from same_self _]
    rfl
  · have hx2 : x ∈ [wrapC c, wrapC c] := hx
    have : x = wrapC c := by simpa using hx2
    subst this
    exact wrap_ok (valid_isOk h) hno (by omega)
theorem FnCoreValid_law (code : List Int) (h : ∀ x ∈ code, 0 ≤ x ∧ x < 256) : TQ (fun m => m_laws_FnCoreValid m code) (fun r => r = true) := by
  refine TQ.eq (fun m => by unfold m_laws_FnCoreValid; rfl) (TQ.cond (fun _ => TQ.val rfl) (fun _ => ?_))
  refine TQ.bind (DrawCoreValid_tq code h) (fun c hc => ?_)
  obtain ⟨hw, hf⟩ := hc
  have hb : c.w ≤ 2 ^ 36 := by omega
  refine ⟨true, ?_, rfl⟩
  refine Tr.bind (implCoreValid_tr c hf hb) (Tr.bind (specCoreValid_tr c hf hb) (Tr.ff (decide_eq_false (fun h => h rfl)) ?_))
  have stop : Tr (fun m => m_laws_FnCoreValid_j1 m c c.valid true) true :=
    Tr.step (fun m => by rw [m_laws_FnCoreValid_j1, cond_true]) (Tr.bind (specCoreValid_tr c hf hb) (Tr.of (fun m => by rw [decide_eq_true rfl])))
  cases hv : c.valid with
  | false => rw [hv] at stop; exact Tr.tt rfl stop
  | true =>
  rw [hv] at stop
  refine Tr.ff rfl (Tr.bind (coreSize_n _ c (Nat.le_refl _) hb) ?_)
  cases decide (500 < (c.cnt : Int)) with
  | true => exact stop
  | false =>
  refine Tr.step (fun m => by rw [m_laws_FnCoreValid_j1, cond_false]) (Tr.bind (coreHas_n 998 _ c (Nat.le_refl _)) ?_)
  by_cases hno : (998 : Int) ∈ c.allI
  · exact Tr.tt (decide_eq_true hno) Tr.val
  refine Tr.ff (decide_eq_false hno) (Tr.bind (mxDeep_n _ c (Nat.le_refl _) hb) ?_)
  by_cases hd : 100 < (c.dep : Int)
  · exact Tr.tt (decide_eq_true hd) Tr.val
  refine Tr.ff (decide_eq_false hd) (Tr.bind (coreSize_n _ c (Nat.le_refl _) hb) ?_)
  by_cases hs : 290 < (c.cnt : Int)
  · exact Tr.tt (decide_eq_true hs) Tr.val
  refine Tr.ff (decide_eq_false hs) ?_
  have wf : (wrapC c).fit := core_fit (by decide) (by simp) (leaf_fit (by decide)) (by simp) (core_one hf)
  have ww : (wrapC c).w ≤ c.w + 4 := by simp only [wrapC, Core.w, Core.ws, Form.w, Form.ws, List.length_cons, List.length_nil]; omega
  have tf : (twoC c).fit := core_fit (by decide) (by simp) (leaf_fit (by decide)) (by simp) (by rw [Core.fits]; exact ⟨wf, core_one wf⟩)
  have tw : (twoC c).w ≤ 2 * c.w + 20 := by simp only [twoC, wrapC, Core.w, Core.ws, Form.w, Form.ws, List.length_cons, List.length_nil]; omega
  refine Tr.bind (implCoreValid_tr (wrapC c) wf (by omega)) ?_
  rw [wrap_valid hv hno (by omega) (by omega)]
  refine Tr.tt rfl (Tr.bind (implCoreValid_tr (twoC c) tf (by omega)) ?_)
  rw [two_valid hv hno (by omega) (by omega)]
  refine Tr.tt rfl (Tr.bind (implCoreAlike_tr (wrapC c) c wf hf (by omega) hb) (Tr.of (fun m => ?_)))
  have : (wrapC c).like c = false := by
    cases hl : (wrapC c).like c with
    | false => rfl
    | true =>
      exfalso
      unfold Core.like at hl
      rw [Bool.and_eq_true, Bool.and_eq_true] at hl
      have := alk_cnt _ _ _ _ _ (Nat.le_refl _) hl.2.2
      rw [wrap_cnt] at this
      omega
  rw [this]; rfl
end Go.Abs
end
