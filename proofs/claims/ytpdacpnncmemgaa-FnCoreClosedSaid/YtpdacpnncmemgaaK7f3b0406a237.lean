/- A part of the proof: what the functions that the law calls answer, as pure values. -/
import Derived.Test.YtpdacpnncmemgaaK3415b291c361
import Derived.Test.YtpdacpnncmemgaaK347cb0288cb6
import Derived.Test.YtpdacpnncmemgaaK4163f9e7bc1f
import Derived.Test.YtpdacpnncmemgaaKbf9a9be28575
set_option linter.unusedSimpArgs false
set_option linter.unusedVariables false
section
set_option linter.unusedVariables false
set_option linter.unusedSimpArgs false
set_option maxHeartbeats 4000000
namespace Go.Abs
theorem nm_fit {l : List ByteArray} (h : l.all (fun s => decide (s.size ≤ 100)) = true) {x : ByteArray} (hx : x ∈ l) : x.size ≤ 9223372036854775807 := by
  have := List.all_eq_true.1 h x hx
  have := of_decide_eq_true this
  omega
theorem leaf_fit {k : Int} {nm : ByteArray} {n : Int} (h : nm.size ≤ 9223372036854775807) : (Form.mk k nm n [] []).fit := by rw [Form.fit]; exact ⟨h, by simp, by simp, trivial⟩
theorem core_fit {k i : Int} {nm : ByteArray} {n : Int} {ids : List Int} {d : Form} {kids : List Core} (h1 : nm.size ≤ 9223372036854775807) (h2 : ids.length ≤ 9223372036854775807) (h3 : d.fit) (h4 : kids.length ≤ 9223372036854775807) (h5 : Core.fits kids) : (Core.mk k i nm n ids d kids).fit := by rw [Core.fit]; exact ⟨h1, h2, h3, h4, h5⟩
theorem form_one {f : Form} (h : f.fit) : Form.fits [f] := by rw [Form.fits]; exact ⟨h, trivial⟩
theorem core_one {f : Core} (h : f.fit) : Core.fits [f] := by rw [Core.fits]; exact ⟨h, trivial⟩
theorem Core.fits_app : ∀ {a b : List Core}, Core.fits a → Core.fits b → Core.fits (a ++ b)
  | [], b, _, h => h
  | x :: xs, b, h1, h2 => by rw [Core.fits] at h1; rw [List.cons_append, Core.fits]; exact ⟨h1.1, Core.fits_app h1.2 h2⟩
theorem Core.fits_set : ∀ (l : List Core) (i : Nat) (x : Core), Core.fits l → x.fit → Core.fits (l.set i x)
  | [], i, x, h, _ => h
  | y :: l, 0, x, h, hx => by rw [Core.fits] at h; rw [List.set_cons_zero, Core.fits]; exact ⟨hx, h.2⟩
  | y :: l, i + 1, x, h, hx => by rw [Core.fits] at h; rw [List.set_cons_succ, Core.fits]; exact ⟨h.1, Core.fits_set l i x h.2 hx⟩
theorem pow4 (d : Nat) : 1 ≤ 4 ^ d := Nat.pos_of_ne_zero (by simp)
theorem pow4s (d : Nat) : 4 ^ (d + 1) = 4 * 4 ^ d := by rw [Nat.pow_succ]; omega
theorem l1Some_tq : ∀ (d : Nat) (o : l15Rd) (K : Int), OkRd o K → d ≤ 12 → K + ((4 ^ (d + 1) : Nat) : Int) ≤ 1000000000 → TQ (fun m => m_spec_l1Some m o (d : Int)) (fun r => OkRd r.2 (K + ((4 ^ (d + 1) : Nat) : Int)) ∧ r.1.w ≤ 4 ^ (d + 1) ∧ r.1.fit) := by
  intro d
  induction d with
  | zero =>
    intro o K h hd hK
    refine TQ.step (fun m => by rw [m_spec_l1Some]) ?_
    refine TQ.cond (fun hc => ?_) (fun hc => by simp at hc)
    refine TQ.bind (pick_tq o 4 K h (by omega)) (fun v hv => ?_)
    refine TQ.cond (fun _ => ?_) (fun _ => ?_)
    · refine TQ.bind (num_tq _ _ _ hv.1 (by omega) (by decide)) (fun w hw => TQ.val ⟨hw.1.mono (by simp; omega), by simp [Form.w, Form.ws], leaf_fit (by decide)⟩)
    · refine TQ.bind (of_tq _ _ _ hv.1 (by omega) (by decide)) (fun w hw => ?_)
      exact TQ.ev (Tr.of (fun m => rfl)) (TQ.val ⟨hw.1.mono (by simp; omega), by simp [Form.w, Form.ws], leaf_fit (nm_fit (by decide) hw.2)⟩)
  | succ d ih =>
    intro o K h hd hK
    have p1 := pow4 d
    have p2 := pow4s d
    have p3 := pow4s (d + 1)
    refine TQ.step (fun m => by rw [m_spec_l1Some]) ?_
    refine TQ.cond (fun hc => by simp at hc; omega) (fun hc => ?_)
    refine TQ.bind (pick_tq o 3 K h (by omega)) (fun v hv => ?_)
    refine TQ.cond (fun _ => ?_) (fun _ => ?_)
    · refine TQ.bind (pick_tq _ 4 _ hv.1 (by omega)) (fun v hv => ?_)
      refine TQ.cond (fun _ => ?_) (fun _ => ?_)
      · refine TQ.bind (num_tq _ _ _ hv.1 (by omega) (by decide)) (fun w hw => TQ.val ⟨hw.1.mono (by omega), by simp only [Form.w, Form.ws, List.length_nil]; omega, leaf_fit (by decide)⟩)
      · refine TQ.bind (of_tq _ _ _ hv.1 (by omega) (by decide)) (fun w hw => ?_)
        exact TQ.ev (Tr.of (fun m => rfl)) (TQ.val ⟨hw.1.mono (by omega), by simp only [Form.w, Form.ws, List.length_nil]; omega, leaf_fit (nm_fit (by decide) hw.2)⟩)
    · refine TQ.bind (pick_tq _ 4 _ hv.1 (by omega)) (fun v hv => ?_)
      obtain ⟨h1, _, h2, _⟩ := hv
      obtain ⟨h2, h3⟩ := h2 (by decide)
      have ed : w64 (((d + 1 : Nat) : Int) - 1) = (d : Int) := by rw [w64_in (by omega)]; omega
      have key : ∀ (j : Nat) (b : List Int) (p : Int) (l : List Form) (K' : Int), j ≤ 3 → OkRd ⟨b, p⟩ K' → K' + (j : Int) * ((4 ^ (d + 1) : Nat) : Int) ≤ 1000000000 → l.length ≤ 3 - j → Form.fits l →
          TQ (fun m => m_spec_l1Some_l1 m ((d + 1 : Nat) : Int) (j : Int) b p l) (fun r => OkRd r.2 (K' + (j : Int) * ((4 ^ (d + 1) : Nat) : Int)) ∧ r.1.w ≤ 1 + Form.ws l + j * (1 + 4 ^ (d + 1)) ∧ r.1.fit) := by
        intro j
        induction j with
        | zero =>
          intro b p l K' hj hb hK' hl hfl
          refine TQ.step (fun m => by rw [m_spec_l1Some_l1]) ?_
          refine TQ.cond (fun hc => by simp at hc) (fun hc => TQ.val ⟨hb.mono (by simp), by simp [Form.w], by rw [Form.fit]; exact ⟨by decide, by simp, by omega, hfl⟩⟩)
        | succ j ihj =>
          intro b p l K' hj hb hK' hl hfl
          have em : ((j + 1 : Nat) : Int) * ((4 ^ (d + 1) : Nat) : Int) = (j : Int) * ((4 ^ (d + 1) : Nat) : Int) + ((4 ^ (d + 1) : Nat) : Int) := by rw [Int.natCast_add, Int.add_mul]; simp
          have e0 : 0 ≤ (j : Int) * ((4 ^ (d + 1) : Nat) : Int) := Int.mul_nonneg (by omega) (by omega)
          have en : (j + 1) * (1 + 4 ^ (d + 1)) = j * (1 + 4 ^ (d + 1)) + (1 + 4 ^ (d + 1)) := by rw [Nat.add_mul]; omega
          refine TQ.step (fun m => by rw [m_spec_l1Some_l1, ed]) ?_
          refine TQ.cond (fun hc => ?_) (fun hc => by exfalso; simp at hc; try omega)
          refine TQ.bind (ih _ K' hb (by omega) (by omega)) (fun v hv => ?_)
          refine TQ.chk (by simp; omega) ?_
          have ew : w64 (((j + 1 : Nat) : Int) - 1) = (j : Int) := by rw [w64_in (by omega)]; omega
          rw [ew]
          refine (ihj _ _ _ _ (by omega) hv.1.mk' (by omega) (by simp; omega) (Form.fits_app hfl (form_one hv.2.2))).mono (fun r hr => ⟨hr.1.mono (by omega), ?_, hr.2.2⟩)
          have := hr.2.1
          have hv2 := hv.2.1
          rw [Form.ws_append] at this
          simp only [Form.ws] at this
          omega
      obtain ⟨j, hj⟩ := Int.eq_ofNat_of_zero_le h2
      rw [hj]
      have hj3 : j ≤ 3 := by omega
      have hm : (j : Int) * ((4 ^ (d + 1) : Nat) : Int) ≤ 3 * ((4 ^ (d + 1) : Nat) : Int) := Int.mul_le_mul_of_nonneg_right (by omega) (by omega)
      have hm2 : j * (1 + 4 ^ (d + 1)) ≤ 3 * (1 + 4 ^ (d + 1)) := Nat.mul_le_mul_right _ hj3
      refine (key j _ _ [] (K + 1 + 1) hj3 h1.mk' (by omega) (by simp) trivial).mono (fun r hr => ⟨hr.1.mono (by omega), ?_, hr.2.2⟩)
      have := hr.2.1
      simp only [Form.ws] at this
      omega
theorem l6Copy_tr : ∀ (n : Nat) (f : Core), f.w ≤ n → f.w ≤ 2 ^ 36 → Tr (fun m => m_spec_l6Copy m f) f := by
  intro n
  induction n with
  | zero => intro f h _; have := f.w_kids; omega
  | succ n ih =>
    intro f h hb
    have hw := f.w_kids
    have hl := Core.ws_len f.kids
    refine Tr.step (fun m => by rw [m_spec_l6Copy]) ?_
    refine Tr.chk (by simp; omega) ?_
    refine Tr.bind (l1Copy_tr _ f.data (Nat.le_refl _) (by omega)) ?_
    have key := drop_ind f.kids (fun k ys => ∀ acc : List Core, acc.length = k → Tr (fun m => m_spec_l6Copy_l1 m f f.data (k : Int) acc) (Core.mk f.kind f.id f.name f.n f.ids f.data (acc ++ ys))) ?_ ?_ 0 (Nat.zero_le _) [] rfl
    · rw [List.drop_zero, List.nil_append] at key
      obtain ⟨a, b, c, d, e, g, h⟩ := f
      exact key
    · intro acc _
      refine Tr.step (fun m => by rw [m_spec_l6Copy_l1, ltN_self]) ?_
      rw [List.append_nil]; exact Tr.val
    · intro k x xs hk hx hd ihk acc hacc
      have hmem : x ∈ f.kids := List.mem_of_getElem? hx
      have hxw := Core.ws_mem hmem
      refine Tr.step (fun m => by rw [m_spec_l6Copy_l1, ltN hk, idx_nat hx, succN]) ?_
      refine Tr.bind (ih x (by omega) (by omega)) ?_
      refine Tr.chk (by simp; omega) ?_
      have := ihk (acc ++ [x]) (by simp; exact hacc)
      rwa [List.append_assoc] at this
def leafF (x4 : Int) (v7 : Int × l15Rd) (fuel : Nat) : Option (Core × Int × l15Rd) :=
  (bif (decide (v7.1 = 0)) then
(m_spec_l1Some fuel v7.2 1).bind fun v9 =>
some ((Core.mk 4 0 (⟨#[]⟩ : ByteArray) 0 ([] : List Int) v9.1 ([] : List Core)), x4, v9.2)
else
(bif (decide (v7.1 = 1)) then
(m_spec_l15Rd_of fuel v7.2 [(⟨#[102]⟩ : ByteArray), (⟨#[43]⟩ : ByteArray), (⟨#[108, 105, 115, 116]⟩ : ByteArray)]).bind fun v11 =>
some ((Core.mk 2 0 v11.1 0 ([] : List Int) (Form.mk 0 (⟨#[]⟩ : ByteArray) 0 ([] : List Int) ([] : List Form)) ([] : List Core)), x4, v11.2)
else
(m_spec_l15Rd_num fuel v7.2 [0, 1, 5, 42]).bind fun v12 =>
some ((Core.mk 3 0 (⟨#[]⟩ : ByteArray) v12.1 ([] : List Int) (Form.mk 0 (⟨#[]⟩ : ByteArray) 0 ([] : List Int) ([] : List Form)) ([] : List Core)), x4, v12.2)))
theorem leafF_tq (x4 : Int) (v7 : Int × l15Rd) (K : Int) (h : OkRd v7.2 K) (hK : K + 16 ≤ 1000000000) : TQ (leafF x4 v7) (fun r => OkRd r.2.2 (K + 16) ∧ r.1.w ≤ 17 ∧ r.1.fit) := by
  unfold leafF
  refine TQ.cond (fun _ => ?_) (fun _ => TQ.cond (fun _ => ?_) (fun _ => ?_))
  · refine TQ.bind (l1Some_tq 1 _ K h (by decide) (by simpa using hK)) (fun v hv => TQ.val ⟨by simpa using hv.1, ?_, core_fit (by decide) (by simp) hv.2.2 (by simp) trivial⟩)
    have := hv.2.1
    simp only [Core.w, Core.ws, List.length_nil]
    omega
  · exact TQ.bind (of_tq _ _ _ h (by omega) (by decide)) (fun w hw => TQ.val ⟨hw.1.mono (by omega), by simp [Core.w, Core.ws, Form.w, Form.ws], core_fit (nm_fit (by decide) hw.2) (by simp) (leaf_fit (by decide)) (by simp) trivial⟩)
  · exact TQ.bind (num_tq _ _ _ h (by omega) (by decide)) (fun w hw => TQ.val ⟨hw.1.mono (by omega), by simp [Core.w, Core.ws, Form.w, Form.ws], core_fit (by decide) (by simp) (leaf_fit (by decide)) (by simp) trivial⟩)
def leafV (x2 : List Int) (x4 : Int) (o1 : l15Rd) (fuel : Nat) : Option (Core × Int × l15Rd) :=
  (bif (decide (0 < (x2.length : Int))) then
(m_spec_l15Rd_pick fuel o1 3).bind fun v3 =>
(bif (decide (0 < v3.1)) then
(m_spec_l15Rd_pick fuel v3.2 (x2.length : Int)).bind fun v5 =>
(idx x2 v5.1).bind fun v6 =>
some ((Core.mk 1 v6 (⟨#[]⟩ : ByteArray) 0 ([] : List Int) (Form.mk 0 (⟨#[]⟩ : ByteArray) 0 ([] : List Int) ([] : List Form)) ([] : List Core)), x4, v5.2)
else
(m_spec_l15Rd_pick fuel v3.2 4).bind fun v7 => leafF x4 v7 fuel)
else
(m_spec_l15Rd_pick fuel o1 4).bind fun v13 => leafF x4 v13 fuel)
theorem leafV_tq (x2 : List Int) (x4 : Int) (o : l15Rd) (K : Int) (h : OkRd o K) (hK : K + 20 ≤ 1000000000) : TQ (leafV x2 x4 o) (fun r => OkRd r.2.2 (K + 20) ∧ r.1.w ≤ 17 ∧ r.1.fit) := by
  unfold leafV
  refine TQ.cond (fun hc => ?_) (fun _ => ?_)
  · refine TQ.bind (pick_tq _ 3 _ h (by omega)) (fun v hv => ?_)
    refine TQ.cond (fun _ => ?_) (fun _ => ?_)
    · refine TQ.bind (pick_tq _ _ _ hv.1 (by omega)) (fun w hw => ?_)
      obtain ⟨h1, _, h2, _⟩ := hw
      obtain ⟨h2, h3⟩ := h2 (by simpa using hc)
      exact TQ.idx h2 h3 (fun x hx => TQ.val ⟨h1.mono (by omega), by simp [Core.w, Core.ws, Form.w, Form.ws], core_fit (by decide) (by simp) (leaf_fit (by decide)) (by simp) trivial⟩)
    · refine TQ.bind (pick_tq _ 4 _ hv.1 (by omega)) (fun w hw => ?_)
      exact (leafF_tq x4 w _ hw.1 (by omega)).mono (fun r hr => ⟨hr.1.mono (by omega), hr.2⟩)
  · refine TQ.bind (pick_tq _ 4 _ h (by omega)) (fun w hw => ?_)
    exact (leafF_tq x4 w _ hw.1 (by omega)).mono (fun r hr => ⟨hr.1.mono (by omega), hr.2⟩)
theorem l6Some_tq : ∀ (d : Nat) (o : l15Rd) (ids : List Int) (next : Int) (K : Int), OkRd o K → d ≤ 10 → ids.length + 2 * d ≤ 1000 → K + ((24 * 4 ^ d : Nat) : Int) ≤ 1000000000 → TQ (fun m => m_spec_l6Some m o ids (d : Int) next) (fun r => OkRd r.2.2 (K + ((24 * 4 ^ d : Nat) : Int)) ∧ r.1.w ≤ 24 * 4 ^ d ∧ r.1.fit) := by
  intro d
  induction d with
  | zero =>
    intro o ids next K h hd hids hK
    refine TQ.step (fun m => by rw [m_spec_l6Some]) ?_
    refine TQ.cond (fun hc => ?_) (fun hc => by simp at hc)
    exact (leafV_tq ids next o K h (by simp at hK; omega)).mono (fun r hr => ⟨hr.1.mono (by simp), by simp; omega, hr.2.2⟩)
  | succ d ih =>
    intro o ids next K h hd hids hK
    have p1 := pow4 d
    have p2 := pow4s d
    refine TQ.step (fun m => by rw [m_spec_l6Some]) ?_
    refine TQ.cond (fun hc => by exfalso; simp at hc; omega) (fun hc => ?_)
    refine TQ.bind (pick_tq o 4 K h (by omega)) (fun v hv => ?_)
    refine TQ.cond (fun _ => ?_) (fun _ => ?_)
    · exact (leafV_tq ids next v.2 _ hv.1 (by omega)).mono (fun r hr => ⟨hr.1.mono (by omega), by omega, hr.2.2⟩)
    have ed : w64 (((d + 1 : Nat) : Int) - 1) = (d : Int) := by rw [w64_in (by omega)]; omega
    have B0 : (0 : Int) ≤ ((24 * 4 ^ d : Nat) : Int) := by omega
    have mulS : ∀ j : Nat, ((j + 1 : Nat) : Int) * ((24 * 4 ^ d : Nat) : Int) = (j : Int) * ((24 * 4 ^ d : Nat) : Int) + ((24 * 4 ^ d : Nat) : Int) := fun j => by rw [Int.natCast_add, Int.add_mul]; simp
    have mulS' : ∀ j : Nat, (j + 1) * (1 + 24 * 4 ^ d) = j * (1 + 24 * 4 ^ d) + (1 + 24 * 4 ^ d) := fun j => by rw [Nat.add_mul]; omega
    have mul0 : ∀ j : Nat, 0 ≤ (j : Int) * ((24 * 4 ^ d : Nat) : Int) := fun j => Int.mul_nonneg (by omega) B0
    have mulL : ∀ j : Nat, j ≤ 3 → (j : Int) * ((24 * 4 ^ d : Nat) : Int) ≤ 3 * ((24 * 4 ^ d : Nat) : Int) := fun j hj => Int.mul_le_mul_of_nonneg_right (by omega) B0
    have mulL' : ∀ j : Nat, j ≤ 3 → j * (1 + 24 * 4 ^ d) ≤ 3 * (1 + 24 * 4 ^ d) := fun j hj => Nat.mul_le_mul_right _ hj
    refine TQ.bind (num_tq _ _ _ hv.1 (by omega) (by decide)) (fun v38 hv38 => ?_)
    obtain ⟨h38, hm38⟩ := hv38
    have hk38 : v38.1 ≠ 2 := by
      simp at hm38
      omega
    refine TQ.cond (fun _ => ?_) (fun _ => TQ.cond (fun _ => ?_) (fun _ => ?_))
    · -- a function
      have two : ∀ (g41 g46 : List Int) (g53 : Int) (b : List Int) (p : Int) (K' : Int), OkRd ⟨b, p⟩ K' → K' + ((24 * 4 ^ d : Nat) : Int) ≤ 1000000000 → g41.length + 2 * d ≤ 1000 → g46.length ≤ 3 →
          TQ (fun m => m_spec_l6Some_l2 m ((d + 1 : Nat) : Int) v38 g41 g46 g53 0 b p []) (fun r => OkRd r.2.2 (K' + ((24 * 4 ^ d : Nat) : Int)) ∧ r.1.w ≤ 6 + 24 * 4 ^ d ∧ r.1.fit) := by
        intro g41 g46 g53 b p K' hb hK' hg41 hg46
        refine TQ.step (fun m => by rw [m_spec_l6Some_l2, ed]) ?_
        refine TQ.cond (fun hc => ?_) (fun hc => by exfalso; simp at hc)
        refine TQ.bind (ih _ g41 g53 K' hb (by omega) hg41 hK') (fun v hv => ?_)
        refine TQ.chk (by simp) ?_
        refine TQ.step (fun m => by rw [m_spec_l6Some_l2]) ?_
        refine TQ.cond (fun hc => by exfalso; rw [w64_in (by omega)] at hc; simp at hc) (fun hc => TQ.val ⟨hv.1.mk', ?_, core_fit (by decide) (by omega) (leaf_fit (by decide)) (by simp) ⟨hv.2.2, trivial⟩⟩)
        have := hv.2.1
        simp only [Core.w, Core.ws, Form.w, Form.ws, List.length_nil, List.nil_append]
        omega
      refine TQ.bind (num_tq _ _ _ h38 (by omega) (by decide)) (fun v40 hv40 => ?_)
      obtain ⟨h40, hm40⟩ := hv40
      have one : ∀ (j : Nat) (g41 : List Int) (g42 : Int) (b : List Int) (p : Int) (g46 : List Int) (K' : Int), j ≤ 2 → OkRd ⟨b, p⟩ K' → K' + j + ((24 * 4 ^ d : Nat) : Int) ≤ 1000000000 → g41.length + j + 2 * d ≤ 1000 → g46.length + j ≤ 3 →
          TQ (fun m => m_spec_l6Some_l1 m ((d + 1 : Nat) : Int) v38 g41 g42 (j : Int) b p g46) (fun r => OkRd r.2.2 (K' + j + ((24 * 4 ^ d : Nat) : Int)) ∧ r.1.w ≤ 6 + 24 * 4 ^ d ∧ r.1.fit) := by
        intro j
        induction j with
        | zero =>
          intro g41 g42 b p g46 K' hj hb hK' h41 h46
          refine TQ.step (fun m => by rw [m_spec_l6Some_l1]) ?_
          refine TQ.cond (fun hc => by exfalso; simp at hc) (fun hc => ?_)
          exact (two g41 g46 g42 b p K' hb (by omega) (by omega) (by omega)).mono (fun r hr => ⟨hr.1.mono (by omega), hr.2⟩)
        | succ j ihj =>
          intro g41 g42 b p g46 K' hj hb hK' h41 h46
          refine TQ.step (fun m => by rw [m_spec_l6Some_l1]) ?_
          refine TQ.cond (fun hc => ?_) (fun hc => by exfalso; simp at hc; try omega)
          refine TQ.bind (num_tq _ _ _ hb (by omega) (by decide)) (fun v hv => ?_)
          refine TQ.chk (by simp; omega) (TQ.chk (by simp; omega) (TQ.chk (by simp; omega) ?_))
          have ew : w64 (((j + 1 : Nat) : Int) - 1) = (j : Int) := by rw [w64_in (by omega)]; omega
          rw [ew]
          exact (ihj _ _ _ _ _ _ (by omega) hv.1.mk' (by omega) (by simp; omega) (by simp; omega)).mono (fun r hr => ⟨hr.1.mono (by omega), hr.2⟩)
      have hj : v40.1 = ((1 : Nat) : Int) ∨ v40.1 = ((2 : Nat) : Int) ∨ v40.1 = ((0 : Nat) : Int) := by simpa using hm40
      rcases hj with e | e | e <;> rw [e]
      · exact (one 1 ids next _ _ [] _ (by omega) h40.mk' (by omega) (by omega) (by simp)).mono (fun r hr => ⟨hr.1.mono (by omega), by omega, hr.2.2⟩)
      · exact (one 2 ids next _ _ [] _ (by omega) h40.mk' (by omega) (by omega) (by simp)).mono (fun r hr => ⟨hr.1.mono (by omega), by omega, hr.2.2⟩)
      · exact (one 0 ids next _ _ [] _ (by omega) h40.mk' (by omega) (by omega) (by simp)).mono (fun r hr => ⟨hr.1.mono (by omega), by omega, hr.2.2⟩)
    · -- a call
      refine TQ.bind (num_tq _ _ _ h38 (by omega) (by decide)) (fun v63 hv63 => ?_)
      obtain ⟨h63, hm63⟩ := hv63
      have three : ∀ (N j : Nat) (g64 : Int) (b : List Int) (p : Int) (g68 : List Core) (K' : Int), v63.1 = ((N : Nat) : Int) → N ≤ 3 → j ≤ N → OkRd ⟨b, p⟩ K' → K' + (j : Int) * ((24 * 4 ^ d : Nat) : Int) ≤ 1000000000 → g68.length ≤ 3 - j → Core.fits g68 →
          TQ (fun m => m_spec_l6Some_l3 m ids ((d + 1 : Nat) : Int) v38 v63 g64 (((N - j : Nat)) : Int) b p g68) (fun r => OkRd r.2.2 (K' + (j : Int) * ((24 * 4 ^ d : Nat) : Int)) ∧ r.1.w ≤ 2 + Core.ws g68 + j * (1 + 24 * 4 ^ d) ∧ r.1.fit) := by
        intro N j
        induction j with
        | zero =>
          intro g64 b p g68 K' hN hN3 hj hb hK' hl hfl
          refine TQ.step (fun m => by rw [m_spec_l6Some_l3]) ?_
          refine TQ.cond (fun hc => by exfalso; rw [hN] at hc; simp at hc) (fun hc => TQ.val ⟨hb.mono (by simp), ?_, core_fit (by decide) (by simp) (leaf_fit (by decide)) (by omega) hfl⟩)
          simp only [Core.w, Form.w, Form.ws, List.length_nil]; omega
        | succ j ihj =>
          intro g64 b p g68 K' hN hN3 hj hb hK' hl hfl
          have m1 := mulS j
          have m2 := mulS' j
          have m3 := mul0 j
          refine TQ.step (fun m => by rw [m_spec_l6Some_l3, ed]) ?_
          refine TQ.cond (fun hc => ?_) (fun hc => by exfalso; rw [hN] at hc; simp at hc; omega)
          refine TQ.bind (ih _ ids g64 K' hb (by omega) (by omega) (by omega)) (fun v hv => ?_)
          refine TQ.chk (by simp; omega) ?_
          have ew : w64 (((N - (j + 1) : Nat) : Int) + 1) = ((N - j : Nat) : Int) := by rw [w64_in (by omega)]; omega
          rw [ew]
          refine (ihj _ _ _ _ _ hN hN3 (by omega) hv.1.mk' (by omega) (by simp; omega) (Core.fits_app hfl (core_one hv.2.2))).mono (fun r hr => ⟨hr.1.mono (by omega), ?_, hr.2.2⟩)
          have := hr.2.1
          rw [Core.ws_append] at this
          simp only [Core.ws] at this
          have hv2 := hv.2.1
          omega
      have hj : v63.1 = ((2 : Nat) : Int) ∨ v63.1 = ((1 : Nat) : Int) ∨ v63.1 = ((3 : Nat) : Int) := by simpa using hm63
      have fin : ∀ N : Nat, v63.1 = (N : Int) → N ≤ 3 → TQ (fun m => m_spec_l6Some_l3 m ids ((d + 1 : Nat) : Int) v38 v63 next 0 v63.2.b v63.2.p []) (fun r => OkRd r.2.2 (K + ((24 * 4 ^ (d + 1) : Nat) : Int)) ∧ r.1.w ≤ 24 * 4 ^ (d + 1) ∧ r.1.fit) := by
        intro N hN hN3
        have m1 := mulL N hN3
        have m2 := mulL' N hN3
        have := three N N next v63.2.b v63.2.p [] _ hN hN3 (Nat.le_refl _) h63.mk' (by omega) (by simp) trivial
        rw [Nat.sub_self] at this
        refine this.mono (fun r hr => ⟨hr.1.mono (by omega), ?_, hr.2.2⟩)
        have := hr.2.1
        simp only [Core.ws] at this
        omega
      rcases hj with e | e | e
      · exact fin 2 e (by omega)
      · exact fin 1 e (by omega)
      · exact fin 3 e (by omega)
    · -- a choice
      have four : ∀ (j : Nat) (g73 : Int) (b : List Int) (p : Int) (g77 : List Core) (K' : Int), j ≤ 3 → OkRd ⟨b, p⟩ K' → K' + (j : Int) * ((24 * 4 ^ d : Nat) : Int) ≤ 1000000000 → g77.length ≤ 3 - j → Core.fits g77 →
          TQ (fun m => m_spec_l6Some_l4 m ids ((d + 1 : Nat) : Int) v38 g73 (((3 - j : Nat)) : Int) b p g77) (fun r => OkRd r.2.2 (K' + (j : Int) * ((24 * 4 ^ d : Nat) : Int)) ∧ r.1.w ≤ 2 + Core.ws g77 + j * (1 + 24 * 4 ^ d) ∧ r.1.fit) := by
        intro j
        induction j with
        | zero =>
          intro g73 b p g77 K' hj hb hK' hl hfl
          refine TQ.step (fun m => by rw [m_spec_l6Some_l4]) ?_
          refine TQ.cond (fun hc => by exfalso; simp at hc) (fun hc => TQ.val ⟨hb.mono (by simp), ?_, core_fit (by decide) (by simp) (leaf_fit (by decide)) (by omega) hfl⟩)
          simp only [Core.w, Form.w, Form.ws, List.length_nil]; omega
        | succ j ihj =>
          intro g73 b p g77 K' hj hb hK' hl hfl
          have m1 := mulS j
          have m2 := mulS' j
          have m3 := mul0 j
          refine TQ.step (fun m => by rw [m_spec_l6Some_l4, ed]) ?_
          refine TQ.cond (fun hc => ?_) (fun hc => by exfalso; simp at hc; try omega)
          refine TQ.bind (ih _ ids g73 K' hb (by omega) (by omega) (by omega)) (fun v hv => ?_)
          refine TQ.chk (by simp; omega) ?_
          have ew : w64 (((3 - (j + 1) : Nat) : Int) + 1) = ((3 - j : Nat) : Int) := by rw [w64_in (by omega)]; omega
          rw [ew]
          refine (ihj _ _ _ _ _ (by omega) hv.1.mk' (by omega) (by simp; omega) (Core.fits_app hfl (core_one hv.2.2))).mono (fun r hr => ⟨hr.1.mono (by omega), ?_, hr.2.2⟩)
          have := hr.2.1
          rw [Core.ws_append] at this
          simp only [Core.ws] at this
          have hv2 := hv.2.1
          omega
      have m1 := mulL 3 (by omega)
      have m2 := mulL' 3 (by omega)
      refine (four 3 next v38.2.b v38.2.p [] _ (by omega) h38.mk' (by omega) (by simp) trivial).mono (fun r hr => ⟨hr.1.mono (by omega), ?_, hr.2.2⟩)
      have := hr.2.1
      simp only [Core.ws] at this
      omega
theorem Core.ws_set : ∀ (l : List Core) (i : Nat) (x : Core) (B : Nat), (∀ y, l[i]? = some y → x.w ≤ y.w + B) → Core.ws (l.set i x) ≤ Core.ws l + B
  | [], i, x, B, _ => by simp [Core.ws]
  | y :: l, 0, x, B, h => by
    have := h y rfl
    rw [List.set_cons_zero, Core.ws, Core.ws]; omega
  | y :: l, i + 1, x, B, h => by
    have := Core.ws_set l i x B (fun z hz => h z (by simpa using hz))
    rw [List.set_cons_succ, Core.ws, Core.ws]; omega
def mutL (v1 : Core) (o1 : l15Rd) (fuel : Nat) : Option (Core × l15Rd) :=
(m_spec_l15Rd_pick fuel o1 12).bind fun v9 =>
(bif (decide (v9.1 = 0)) then
(m_spec_l15Rd_num fuel v9.2 [0, 8, 3, 6]).bind fun v11 =>
some ((Core.mk v11.1 v1.id v1.name v1.n v1.ids v1.data v1.kids), v11.2)
else
(bif (decide (v9.1 = 1)) then
(m_spec_l15Rd_num fuel v9.2 [0, 1, 1000, 2]).bind fun v13 =>
some ((Core.mk v1.kind v13.1 v1.name v1.n v1.ids v1.data v1.kids), v13.2)
else
(bif (decide (v9.1 = 2)) then
(m_spec_l15Rd_num fuel v9.2 [1, 900, 0]).bind fun v15 =>
chk (decide ((v1.ids.length + [v15.1].length) * 8 ≤ 140737488355328)) <|
some ((Core.mk v1.kind v1.id v1.name v1.n (v1.ids ++ [v15.1]) v1.data v1.kids), v15.2)
else
(bif (decide (v9.1 = 3)) then
(m_spec_l15Rd_of fuel v9.2 [(⟨#[]⟩ : ByteArray), (⟨#[103]⟩ : ByteArray), (⟨#[65]⟩ : ByteArray)]).bind fun v18 =>
some ((Core.mk v1.kind v1.id v18.1 v1.n v1.ids v1.data v1.kids), v18.2)
else
some (v1, v9.2)))))
theorem mutL_tq (v1 : Core) (o : l15Rd) (K : Int) (h : OkRd o K) (hK : K + 2 ≤ 1000000000) (hw : v1.w ≤ 2 ^ 36) : TQ (mutL v1 o) (fun r => OkRd r.2 (K + 2) ∧ r.1.w ≤ v1.w + 1 ∧ (v1.fit → r.1.fit)) := by
  have hk := v1.w_kids
  unfold mutL
  refine TQ.bind (pick_tq o 12 _ h (by omega)) (fun v hv => ?_)
  refine TQ.cond (fun _ => ?_) (fun _ => TQ.cond (fun _ => ?_) (fun _ => TQ.cond (fun _ => ?_) (fun _ => TQ.cond (fun _ => ?_) (fun _ => ?_))))
  · exact TQ.bind (num_tq _ _ _ hv.1 (by omega) (by decide)) (fun w hw => TQ.val ⟨hw.1.mono (by omega), by simp only [Core.w]; omega, fun hL => by obtain ⟨f1, f2, f3, f4, f5⟩ := hL.parts; exact core_fit f1 f2 f3 f4 f5⟩)
  · exact TQ.bind (num_tq _ _ _ hv.1 (by omega) (by decide)) (fun w hw => TQ.val ⟨hw.1.mono (by omega), by simp only [Core.w]; omega, fun hL => by obtain ⟨f1, f2, f3, f4, f5⟩ := hL.parts; exact core_fit f1 f2 f3 f4 f5⟩)
  · exact TQ.bind (num_tq _ _ _ hv.1 (by omega) (by decide)) (fun w hw => TQ.chk (by simp; omega) (TQ.val ⟨hw.1.mono (by omega), by simp only [Core.w, List.length_append, List.length_cons, List.length_nil]; omega, fun hL => by obtain ⟨f1, f2, f3, f4, f5⟩ := hL.parts; exact core_fit f1 (by simp; omega) f3 f4 f5⟩))
  · exact TQ.bind (of_tq _ _ _ hv.1 (by omega) (by decide)) (fun w hw => TQ.val ⟨hw.1.mono (by omega), by simp only [Core.w]; omega, fun hL => by obtain ⟨f1, f2, f3, f4, f5⟩ := hL.parts; exact core_fit (nm_fit (by decide) hw.2) f2 f3 f4 f5⟩)
  · exact TQ.val ⟨hv.1.mono (by omega), Nat.le_succ _, fun hL => hL⟩
theorem l6Mutate_tq : ∀ (n : Nat) (c : Core) (o : l15Rd) (K : Int), c.w ≤ n → OkRd o K → c.w ≤ 2 ^ 30 → K + 3 * c.w ≤ 100000000000 → K + 3 * c.w ≤ 1000000000 → TQ (fun m => m_spec_l6Mutate m o c) (fun r => OkRd r.2 (K + 3 * c.w) ∧ r.1.w ≤ c.w + 1 ∧ (c.fit → r.1.fit)) := by
  intro n
  induction n with
  | zero => intro c o K h; have := c.w_kids; omega
  | succ n ih =>
    intro c o K h ho hb hK hK2
    have hw := c.w_kids
    refine TQ.step (fun m => by rw [m_spec_l6Mutate]) ?_
    refine TQ.ev (l6Copy_tr _ c (Nat.le_refl _) (by omega)) ?_
    refine TQ.cond (fun hc => ?_) (fun _ => ?_)
    · have hpos : 0 < c.kids.length := by simpa using hc
      have hl := Core.ws_len c.kids
      refine TQ.bind (pick_tq o 2 _ ho (by omega)) (fun v hv => ?_)
      refine TQ.cond (fun _ => ?_) (fun _ => ?_)
      · refine TQ.bind (pick_tq _ _ _ hv.1 (by omega)) (fun w hw2 => ?_)
        obtain ⟨h1, _, h2, _⟩ := hw2
        obtain ⟨h2, h3⟩ := h2 (by omega)
        obtain ⟨x, hx, hm⟩ := idx_int h2 h3
        have hxw := Core.ws_mem hm
        have hx2 := (idx_some hx).2.2
        obtain ⟨r, hr, q1, q2, q3⟩ := ih x w.2 _ (by omega) h1 (by omega) (by omega) (by omega)
        refine ⟨_, Tr.idx hx (Tr.bind hr (Tr.idx hx Tr.val)), q1.mono (by omega), ?_, fun hL => by obtain ⟨f1, f2, f3, f4, f5⟩ := hL.parts; exact core_fit f1 f2 f3 (by rw [List.length_set]; exact f4) (Core.fits_set _ _ _ f5 (q3 (Core.fits_mem f5 hm)))⟩
        have := Core.ws_set c.kids w.1.toNat r.1 1 (fun y hy => by rw [hx2] at hy; cases hy; exact q2)
        simp only [Core.w]; omega
      · exact (mutL_tq c _ _ hv.1 (by omega) (by omega)).mono (fun r hr => ⟨hr.1.mono (by omega), hr.2⟩)
    · exact (mutL_tq c _ _ ho (by omega) (by omega)).mono (fun r hr => ⟨hr.1.mono (by omega), hr.2⟩)
theorem l6Draw_tq (code : List Int) (h : ∀ x ∈ code, 0 ≤ x ∧ x < 256) : TQ (fun m => m_spec_l6Draw m code) (fun c => c.w ≤ 2 ^ 20 ∧ c.fit) := by
  refine TQ.eq (fun m => by unfold m_spec_l6Draw; rfl) ?_
  refine TQ.bind (open_tq code h) (fun o ho => ?_)
  refine TQ.bind (num_tq _ _ _ ho (by omega) (by decide)) (fun v hv => ?_)
  obtain ⟨h1, hm⟩ := hv
  have hd : ∃ d : Nat, v.1 = (d : Int) ∧ d ≤ 4 := by
    have : v.1 = 3 ∨ v.1 = 4 ∨ v.1 = 2 := by simpa using hm
    rcases this with e | e | e
    · exact ⟨3, e, by omega⟩
    · exact ⟨4, e, by omega⟩
    · exact ⟨2, e, by omega⟩
  obtain ⟨d, hd, hd4⟩ := hd
  rw [hd]
  have hp : 4 ^ d ≤ 4 ^ 4 := Nat.pow_le_pow_right (by decide) hd4
  have e4 : (4 : Nat) ^ 4 = 256 := rfl
  refine TQ.bind (l6Some_tq d v.2 [] 0 _ h1 (by omega) (by simp; omega) (by omega)) (fun w hw => ?_)
  obtain ⟨h2, hw, hL⟩ := hw
  refine TQ.bind (pick_tq _ 8 _ h2 (by omega)) (fun u hu => ?_)
  refine TQ.cond (fun _ => ?_) (fun _ => TQ.val ⟨by omega, hL⟩)
  refine TQ.bind (l6Mutate_tq _ w.1 u.2 _ (Nat.le_refl _) hu.1 (by omega) (by omega) (by omega)) (fun y hy => ?_)
  refine TQ.bind (l6Mutate_tq _ y.1 y.2 _ (Nat.le_refl _) hy.1 (by omega) (by omega) (by omega)) (fun z hz => ?_)
  exact TQ.val ⟨by omega, hz.2.2 (hy.2.2 hL)⟩
theorem DrawCoreValid_tq (code : List Int) (h : ∀ x ∈ code, 0 ≤ x ∧ x < 256) : TQ (fun m => m_spec_DrawCoreValid m code) (fun c => c.w ≤ 2 ^ 20 ∧ c.fit) :=
  TQ.eq (fun m => by unfold m_spec_DrawCoreValid; rfl) (TQ.bind (l6Draw_tq code h) (fun v hv => TQ.val hv))
theorem Core.isOk_mono : ∀ (n : Nat) (c : Core) (ar : List Int) (d : Nat), c.w ≤ n → c.isOk ar d = true → c.isOk ar (d + 1) = true := by
  intro n
  induction n with
  | zero => intro c ar d h; have := c.w_pos; omega
  | succ n ih =>
    intro c ar d h hk
    have hw := c.w_kids
    rw [Core.isOk_eq] at hk ⊢
    by_cases hd : d = 0
    · rw [decide_eq_true hd] at hk; cases hk
    rw [decide_eq_false hd, cond_false, Bool.and_eq_true] at hk
    rw [decide_eq_false (by omega), cond_false, Bool.and_eq_true]
    refine ⟨hk.1, alls_iff.2 (fun x hx => ?_)⟩
    have := ih x (ar ++ c.ids) (d - 1) (by have := Core.ws_mem hx; omega) (alls_iff.1 hk.2 x hx)
    rwa [show d - 1 + 1 = d + 1 - 1 by omega] at this
theorem Core.cnts_mem : ∀ {l : List Core} {x : Core}, x ∈ l → x.cnt ≤ Core.cnts l
  | y :: l, x, h => by
    rw [Core.cnts]
    rcases List.mem_cons.1 h with rfl | h
    · omega
    · have := Core.cnts_mem h; omega
theorem kid_valid {c x : Core} (h : c.valid = true) (hx : x ∈ c.kids) (hi : c.ids = []) : x.valid = true := by
  unfold Core.valid at h ⊢
  rw [Bool.and_eq_true, Core.isOk_eq, decide_eq_false (by decide), cond_false, Bool.and_eq_true] at h
  obtain ⟨⟨h1, h2⟩, h3⟩ := h
  have h4 := alls_iff.1 h2 x hx
  rw [hi] at h4
  have h5 := of_decide_eq_true h3
  have h6 := Core.cnts_mem hx
  have h7 := c.cnt_eq
  rw [Bool.and_eq_true]
  exact ⟨Core.isOk_mono _ x [] 119 (Nat.le_refl _) h4, decide_eq_true (by omega)⟩
theorem okF_ids {c : Core} {ar : List Int} (h : c.okF ar = true) (hk : c.kind ≠ 5) : c.ids = [] := by
  rw [okF_eq, Bool.and_eq_true, Bool.and_eq_true] at h
  have h1 := h.2.1
  unfold Core.fl Core.fl1 Core.fl2 Core.fl3 at h1
  simp only [Bool.and_eq_true] at h1
  have h2 := h1.2.2.2.2
  unfold Core.fl4 at h2
  rw [decide_eq_false hk, cond_false] at h2
  have := of_decide_eq_true h2
  exact List.eq_nil_of_length_eq_zero (by omega)
theorem valid_ids {c : Core} (h : c.valid = true) (hk : c.kind ≠ 5) : c.ids = [] := by
  unfold Core.valid at h
  rw [Bool.and_eq_true, Core.isOk_eq, decide_eq_false (by decide), cond_false, Bool.and_eq_true] at h
  exact okF_ids h.1.1 hk
theorem valid_var {c : Core} (h : c.valid = true) : c.kind ≠ 1 := by
  intro hk
  unfold Core.valid at h
  rw [Bool.and_eq_true, Core.isOk_eq, decide_eq_false (by decide), cond_false, Bool.and_eq_true, Core.okF, decide_eq_true hk, cond_true, Bool.and_eq_true] at h
  have := h.1.1.2
  rw [Bool.and_eq_true] at this
  cases this.1
theorem FnCoreClosed_law (code : List Int) (h : ∀ x ∈ code, 0 ≤ x ∧ x < 256) : TQ (fun m => m_laws_FnCoreClosed m code) (fun r => r = true) := by
  refine TQ.eq (fun m => by unfold m_laws_FnCoreClosed; rfl) (TQ.cond (fun _ => TQ.val rfl) (fun _ => ?_))
  refine TQ.bind (DrawCoreValid_tq code h) (fun c hc => ?_)
  obtain ⟨hw, hf⟩ := hc
  have hb : c.w ≤ 2 ^ 36 := by omega
  have hw2 := c.w_kids
  refine TQ.ev (implCoreValid_tr c hf hb) (TQ.ev (specCoreValid_tr c hf hb) ?_)
  refine TQ.eq (fun m => by rw [decide_eq_false (fun h => h rfl), cond_false]) ?_
  have stop : TQ (fun m => m_laws_FnCoreClosed_j1 m c c.valid true) (fun r => r = true) :=
    TQ.step (fun m => by rw [m_laws_FnCoreClosed_j1, cond_true]) (TQ.ev (specCoreValid_tr c hf hb) (TQ.eq (fun m => by rw [decide_eq_true rfl]) (TQ.val rfl)))
  cases hv : c.valid with
  | false => rw [hv] at stop; exact TQ.eq (fun m => by rw [Bool.not_false, cond_true]) stop
  | true =>
  rw [hv] at stop
  refine TQ.eq (fun m => by rw [Bool.not_true, cond_false]) ?_
  by_cases hk : c.kind = 5
  · exact TQ.eq (fun m => by rw [decide_eq_true hk]) stop
  refine TQ.eq (fun m => by rw [decide_eq_false hk]) (TQ.step (fun m => by rw [m_laws_FnCoreClosed_j1, cond_false]) ?_)
  have hi := valid_ids hv hk
  have key := drop_ind c.kids (fun k zs => Tr (fun m => m_laws_FnCoreClosed_l2 m c (k : Int)) true) ?_ ?_ 0 (Nat.zero_le _)
  · exact ⟨true, key, rfl⟩
  · exact Tr.step (fun m => by rw [m_laws_FnCoreClosed_l2, ltN_self, cond_false, decide_eq_true (valid_var hv)]) Tr.val
  · intro k x zs hkl hx hd ih
    have hm := List.mem_of_getElem? hx
    refine Tr.step (fun m => by rw [m_laws_FnCoreClosed_l2, ltN hkl, cond_true, idx_nat hx, Option.bind_some, succN]) (Tr.bind (implCoreValid_tr x (Core.fits_mem hf.parts.2.2.2.2 hm) (by have := Core.ws_mem hm; omega)) ?_)
    rw [kid_valid hv hm hi]
    exact Tr.ff rfl ih
end Go.Abs
end
