/- A part of the proof: what the functions that the law calls answer, as pure values. -/
import Derived.Test.YtehdhaaopmihaaaGreatDoorK2fa2763a6b98
import Derived.Test.YtehdhaaopmihaaaGreatDoorK85dc7936610e
import Derived.Test.YtehdhaaopmihaaaGreatDoorK98906b43c573
import Derived.Test.YtehdhaaopmihaaaGreatDoorKd19899f98c41
set_option linter.unusedSimpArgs false
set_option linter.unusedVariables false
section
set_option linter.unusedVariables false
set_option linter.unusedSimpArgs false
set_option maxHeartbeats 4000000
namespace Go.Abs
theorem nm_fit {l : List ByteArray} (h : l.all (fun s => decide (s.size ≤ 100)) = true) {x : ByteArray} (hx : x ∈ l) : x.size ≤ 9223372036854775807 := by
  have := List.all_eq_true.1 h x hx
  have := of_decide_eq_true this
  omega
theorem leaf_fit {k : Int} {nm : ByteArray} {n : Int} (h : nm.size ≤ 9223372036854775807) : (Form.mk k nm n [] []).fit := by rw [Form.fit]; exact ⟨h, by simp, by simp, trivial⟩
theorem core_fit {k i : Int} {nm : ByteArray} {n : Int} {ids : List Int} {d : Form} {kids : List Core} (h1 : nm.size ≤ 9223372036854775807) (h2 : ids.length ≤ 9223372036854775807) (h3 : d.fit) (h4 : kids.length ≤ 9223372036854775807) (h5 : Core.fits kids) : (Core.mk k i nm n ids d kids).fit := by rw [Core.fit]; exact ⟨h1, h2, h3, h4, h5⟩
theorem form_one {f : Form} (h : f.fit) : Form.fits [f] := by rw [Form.fits]; exact ⟨h, trivial⟩
theorem core_one {f : Core} (h : f.fit) : Core.fits [f] := by rw [Core.fits]; exact ⟨h, trivial⟩
theorem Core.fits_app : ∀ {a b : List Core}, Core.fits a → Core.fits b → Core.fits (a ++ b)
  | [], b, _, h => h
  | x :: xs, b, h1, h2 => by rw [Core.fits] at h1; rw [List.cons_append, Core.fits]; exact ⟨h1.1, Core.fits_app h1.2 h2⟩
theorem Core.fits_set : ∀ (l : List Core) (i : Nat) (x : Core), Core.fits l → x.fit → Core.fits (l.set i x)
  | [], i, x, h, _ => h
  | y :: l, 0, x, h, hx => by rw [Core.fits] at h; rw [List.set_cons_zero, Core.fits]; exact ⟨hx, h.2⟩
  | y :: l, i + 1, x, h, hx => by rw [Core.fits] at h; rw [List.set_cons_succ, Core.fits]; exact ⟨h.1, Core.fits_set l i x h.2 hx⟩
theorem pow4 (d : Nat) : 1 ≤ 4 ^ d := Nat.pos_of_ne_zero (by simp)
theorem pow4s (d : Nat) : 4 ^ (d + 1) = 4 * 4 ^ d := by rw [Nat.pow_succ]; omega
theorem l1Some_tq : ∀ (d : Nat) (o : l15Rd) (K : Int), OkRd o K → d ≤ 12 → K + ((4 ^ (d + 1) : Nat) : Int) ≤ 1000000000 → TQ (fun m => m_spec_l1Some m o (d : Int)) (fun r => OkRd r.2 (K + ((4 ^ (d + 1) : Nat) : Int)) ∧ r.1.w ≤ 4 ^ (d + 1) ∧ r.1.fit) := by
  intro d
  induction d with
  | zero =>
    intro o K h hd hK
    refine TQ.step (fun m => by rw [m_spec_l1Some]) ?_
    refine TQ.cond (fun hc => ?_) (fun hc => by simp at hc)
    refine TQ.bind (pick_tq o 4 K h (by omega)) (fun v hv => ?_)
    refine TQ.cond (fun _ => ?_) (fun _ => ?_)
    · refine TQ.bind (num_tq _ _ _ hv.1 (by omega) (by decide)) (fun w hw => TQ.val ⟨hw.1.mono (by simp; omega), by simp [Form.w, Form.ws], leaf_fit (by decide)⟩)
    · refine TQ.bind (of_tq _ _ _ hv.1 (by omega) (by decide)) (fun w hw => ?_)
      exact TQ.ev (Tr.of (fun m => rfl)) (TQ.val ⟨hw.1.mono (by simp; omega), by simp [Form.w, Form.ws], leaf_fit (nm_fit (by decide) hw.2)⟩)
  | succ d ih =>
    intro o K h hd hK
    have p1 := pow4 d
    have p2 := pow4s d
    have p3 := pow4s (d + 1)
    refine TQ.step (fun m => by rw [m_spec_l1Some]) ?_
    refine TQ.cond (fun hc => by simp at hc; omega) (fun hc => ?_)
    refine TQ.bind (pick_tq o 3 K h (by omega)) (fun v hv => ?_)
    refine TQ.cond (fun _ => ?_) (fun _ => ?_)
    · refine TQ.bind (pick_tq _ 4 _ hv.1 (by omega)) (fun v hv => ?_)
      refine TQ.cond (fun _ => ?_) (fun _ => ?_)
      · refine TQ.bind (num_tq _ _ _ hv.1 (by omega) (by decide)) (fun w hw => TQ.val ⟨hw.1.mono (by omega), by simp only [Form.w, Form.ws, List.length_nil]; omega, leaf_fit (by decide)⟩)
      · refine TQ.bind (of_tq _ _ _ hv.1 (by omega) (by decide)) (fun w hw => ?_)
        exact TQ.ev (Tr.of (fun m => rfl)) (TQ.val ⟨hw.1.mono (by omega), by simp only [Form.w, Form.ws, List.length_nil]; omega, leaf_fit (nm_fit (by decide) hw.2)⟩)
    · refine TQ.bind (pick_tq _ 4 _ hv.1 (by omega)) (fun v hv => ?_)
      obtain ⟨h1, _, h2, _⟩ := hv
      obtain ⟨h2, h3⟩ := h2 (by decide)
      have ed : w64 (((d + 1 : Nat) : Int) - 1) = (d : Int) := by rw [w64_in (by omega)]; omega
      have key : ∀ (j : Nat) (b : List Int) (p : Int) (l : List Form) (K' : Int), j ≤ 3 → OkRd ⟨b, p⟩ K' → K' + (j : Int) * ((4 ^ (d + 1) : Nat) : Int) ≤ 1000000000 → l.length ≤ 3 - j → Form.fits l →
          TQ (fun m => m_spec_l1Some_l1 m ((d + 1 : Nat) : Int) (j : Int) b p l) (fun r => OkRd r.2 (K' + (j : Int) * ((4 ^ (d + 1) : Nat) : Int)) ∧ r.1.w ≤ 1 + Form.ws l + j * (1 + 4 ^ (d + 1)) ∧ r.1.fit) := by
        intro j
        induction j with
        | zero =>
          intro b p l K' hj hb hK' hl hfl
          refine TQ.step (fun m => by rw [m_spec_l1Some_l1]) ?_
          refine TQ.cond (fun hc => by simp at hc) (fun hc => TQ.val ⟨hb.mono (by simp), by simp [Form.w], by rw [Form.fit]; exact ⟨by decide, by simp, by omega, hfl⟩⟩)
        | succ j ihj =>
          intro b p l K' hj hb hK' hl hfl
          have em : ((j + 1 : Nat) : Int) * ((4 ^ (d + 1) : Nat) : Int) = (j : Int) * ((4 ^ (d + 1) : Nat) : Int) + ((4 ^ (d + 1) : Nat) : Int) := by rw [Int.natCast_add, Int.add_mul]; simp
          have e0 : 0 ≤ (j : Int) * ((4 ^ (d + 1) : Nat) : Int) := Int.mul_nonneg (by omega) (by omega)
          have en : (j + 1) * (1 + 4 ^ (d + 1)) = j * (1 + 4 ^ (d + 1)) + (1 + 4 ^ (d + 1)) := by rw [Nat.add_mul]; omega
          refine TQ.step (fun m => by rw [m_spec_l1Some_l1, ed]) ?_
          refine TQ.cond (fun hc => ?_) (fun hc => by exfalso; simp at hc; try omega)
          refine TQ.bind (ih _ K' hb (by omega) (by omega)) (fun v hv => ?_)
          refine TQ.chk (by simp; omega) ?_
          have ew : w64 (((j + 1 : Nat) : Int) - 1) = (j : Int) := by rw [w64_in (by omega)]; omega
          rw [ew]
          refine (ihj _ _ _ _ (by omega) hv.1.mk' (by omega) (by simp; omega) (Form.fits_app hfl (form_one hv.2.2))).mono (fun r hr => ⟨hr.1.mono (by omega), ?_, hr.2.2⟩)
          have := hr.2.1
          have hv2 := hv.2.1
          rw [Form.ws_append] at this
          simp only [Form.ws] at this
          omega
      obtain ⟨j, hj⟩ := Int.eq_ofNat_of_zero_le h2
      rw [hj]
      have hj3 : j ≤ 3 := by omega
      have hm : (j : Int) * ((4 ^ (d + 1) : Nat) : Int) ≤ 3 * ((4 ^ (d + 1) : Nat) : Int) := Int.mul_le_mul_of_nonneg_right (by omega) (by omega)
      have hm2 : j * (1 + 4 ^ (d + 1)) ≤ 3 * (1 + 4 ^ (d + 1)) := Nat.mul_le_mul_right _ hj3
      refine (key j _ _ [] (K + 1 + 1) hj3 h1.mk' (by omega) (by simp) trivial).mono (fun r hr => ⟨hr.1.mono (by omega), ?_, hr.2.2⟩)
      have := hr.2.1
      simp only [Form.ws] at this
      omega
theorem l6Copy_tr : ∀ (n : Nat) (f : Core), f.w ≤ n → f.w ≤ 2 ^ 36 → Tr (fun m => m_spec_l6Copy m f) f := by
  intro n
  induction n with
  | zero => intro f h _; have := f.w_kids; omega
  | succ n ih =>
    intro f h hb
    have hw := f.w_kids
    have hl := Core.ws_len f.kids
    refine Tr.step (fun m => by rw [m_spec_l6Copy]) ?_
    refine Tr.chk (by simp; omega) ?_
    refine Tr.bind (l1Copy_tr _ f.data (Nat.le_refl _) (by omega)) ?_
    have key := drop_ind f.kids (fun k ys => ∀ acc : List Core, acc.length = k → Tr (fun m => m_spec_l6Copy_l1 m f f.data (k : Int) acc) (Core.mk f.kind f.id f.name f.n f.ids f.data (acc ++ ys))) ?_ ?_ 0 (Nat.zero_le _) [] rfl
    · rw [List.drop_zero, List.nil_append] at key
      obtain ⟨a, b, c, d, e, g, h⟩ := f
      exact key
    · intro acc _
      refine Tr.step (fun m => by rw [m_spec_l6Copy_l1, ltN_self]) ?_
      rw [List.append_nil]; exact Tr.val
    · intro k x xs hk hx hd ihk acc hacc
      have hmem : x ∈ f.kids := List.mem_of_getElem? hx
      have hxw := Core.ws_mem hmem
      refine Tr.step (fun m => by rw [m_spec_l6Copy_l1, ltN hk, idx_nat hx, succN]) ?_
      refine Tr.bind (ih x (by omega) (by omega)) ?_
      refine Tr.chk (by simp; omega) ?_
      have := ihk (acc ++ [x]) (by simp; exact hacc)
      rwa [List.append_assoc] at this
def leafF (x4 : Int) (v7 : Int × l15Rd) (fuel : Nat) : Option (Core × Int × l15Rd) :=
  (bif (decide (v7.1 = 0)) then
 (m_spec_l1Some fuel v7.2 1).bind fun v9 =>
 some ((Core.mk 4 0 (⟨#[]⟩ : ByteArray) 0 ([] : List Int) v9.1 ([] : List Core)), x4, v9.2)
 else
 (bif (decide (v7.1 = 1)) then
 (m_spec_l15Rd_of fuel v7.2 [(⟨#[102]⟩ : ByteArray), (⟨#[43]⟩ : ByteArray), (⟨#[108, 105, 115, 116]⟩ : ByteArray)]).bind fun v11 =>
 some ((Core.mk 2 0 v11.1 0 ([] : List Int) (Form.mk 0 (⟨#[]⟩ : ByteArray) 0 ([] : List Int) ([] : List Form)) ([] : List Core)), x4, v11.2)
 else
 (m_spec_l15Rd_num fuel v7.2 [0, 1, 5, 42]).bind fun v12 =>
 some ((Core.mk 3 0 (⟨#[]⟩ : ByteArray) v12.1 ([] : List Int) (Form.mk 0 (⟨#[]⟩ : ByteArray) 0 ([] : List Int) ([] : List Form)) ([] : List Core)), x4, v12.2)))
theorem leafF_tq (x4 : Int) (v7 : Int × l15Rd) (K : Int) (h : OkRd v7.2 K) (hK : K + 16 ≤ 1000000000) : TQ (leafF x4 v7) (fun r => OkRd r.2.2 (K + 16) ∧ r.1.w ≤ 17 ∧ r.1.fit) := by
  unfold leafF
  refine TQ.cond (fun _ => ?_) (fun _ => TQ.cond (fun _ => ?_) (fun _ => ?_))
  · refine TQ.bind (l1Some_tq 1 _ K h (by decide) (by simpa using hK)) (fun v hv => TQ.val ⟨by simpa using hv.1, ?_, core_fit (by decide) (by simp) hv.2.2 (by simp) trivial⟩)
    have := hv.2.1
    simp only [Core.w, Core.ws, List.length_nil]
    omega
  · exact TQ.bind (of_tq _ _ _ h (by omega) (by decide)) (fun w hw => TQ.val ⟨hw.1.mono (by omega), by simp [Core.w, Core.ws, Form.w, Form.ws], core_fit (nm_fit (by decide) hw.2) (by simp) (leaf_fit (by decide)) (by simp) trivial⟩)
  · exact TQ.bind (num_tq _ _ _ h (by omega) (by decide)) (fun w hw => TQ.val ⟨hw.1.mono (by omega), by simp [Core.w, Core.ws, Form.w, Form.ws], core_fit (by decide) (by simp) (leaf_fit (by decide)) (by simp) trivial⟩)
def leafV (x2 : List Int) (x4 : Int) (o1 : l15Rd) (fuel : Nat) : Option (Core × Int × l15Rd) :=
  (bif (decide (0 < (x2.length : Int))) then
 (m_spec_l15Rd_pick fuel o1 3).bind fun v3 =>
 (bif (decide (0 < v3.1)) then
 (m_spec_l15Rd_pick fuel v3.2 (x2.length : Int)).bind fun v5 =>
 (idx x2 v5.1).bind fun v6 =>
 some ((Core.mk 1 v6 (⟨#[]⟩ : ByteArray) 0 ([] : List Int) (Form.mk 0 (⟨#[]⟩ : ByteArray) 0 ([] : List Int) ([] : List Form)) ([] : List Core)), x4, v5.2)
 else
 (m_spec_l15Rd_pick fuel v3.2 4).bind fun v7 => leafF x4 v7 fuel)
 else
 (m_spec_l15Rd_pick fuel o1 4).bind fun v13 => leafF x4 v13 fuel)
theorem leafV_tq (x2 : List Int) (x4 : Int) (o : l15Rd) (K : Int) (h : OkRd o K) (hK : K + 20 ≤ 1000000000) : TQ (leafV x2 x4 o) (fun r => OkRd r.2.2 (K + 20) ∧ r.1.w ≤ 17 ∧ r.1.fit) := by
  unfold leafV
  refine TQ.cond (fun hc => ?_) (fun _ => ?_)
  · refine TQ.bind (pick_tq _ 3 _ h (by omega)) (fun v hv => ?_)
    refine TQ.cond (fun _ => ?_) (fun _ => ?_)
    · refine TQ.bind (pick_tq _ _ _ hv.1 (by omega)) (fun w hw => ?_)
      obtain ⟨h1, _, h2, _⟩ := hw
      obtain ⟨h2, h3⟩ := h2 (by simpa using hc)
      exact TQ.idx h2 h3 (fun x hx => TQ.val ⟨h1.mono (by omega), by simp [Core.w, Core.ws, Form.w, Form.ws], core_fit (by decide) (by simp) (leaf_fit (by decide)) (by simp) trivial⟩)
    · refine TQ.bind (pick_tq _ 4 _ hv.1 (by omega)) (fun w hw => ?_)
      exact (leafF_tq x4 w _ hw.1 (by omega)).mono (fun r hr => ⟨hr.1.mono (by omega), hr.2⟩)
  · refine TQ.bind (pick_tq _ 4 _ h (by omega)) (fun w hw => ?_)
    exact (leafF_tq x4 w _ hw.1 (by omega)).mono (fun r hr => ⟨hr.1.mono (by omega), hr.2⟩)
theorem l6Some_tq : ∀ (d : Nat) (o : l15Rd) (ids : List Int) (next : Int) (K : Int), OkRd o K → d ≤ 10 → ids.length + 2 * d ≤ 1000 → K + ((24 * 4 ^ d : Nat) : Int) ≤ 1000000000 → TQ (fun m => m_spec_l6Some m o ids (d : Int) next) (fun r => OkRd r.2.2 (K + ((24 * 4 ^ d : Nat) : Int)) ∧ r.1.w ≤ 24 * 4 ^ d ∧ r.1.fit) := by
  intro d
  induction d with
  | zero =>
    intro o ids next K h hd hids hK
    refine TQ.step (fun m => by rw [m_spec_l6Some]) ?_
    refine TQ.cond (fun hc => ?_) (fun hc => by simp at hc)
    exact (leafV_tq ids next o K h (by simp at hK; omega)).mono (fun r hr => ⟨hr.1.mono (by simp), by simp; omega, hr.2.2⟩)
  | succ d ih =>
    intro o ids next K h hd hids hK
    have p1 := pow4 d
    have p2 := pow4s d
    refine TQ.step (fun m => by rw [m_spec_l6Some]) ?_
    refine TQ.cond (fun hc => by exfalso; simp at hc; omega) (fun hc => ?_)
    refine TQ.bind (pick_tq o 4 K h (by omega)) (fun v hv => ?_)
    refine TQ.cond (fun _ => ?_) (fun _ => ?_)
    · exact (leafV_tq ids next v.2 _ hv.1 (by omega)).mono (fun r hr => ⟨hr.1.mono (by omega), by omega, hr.2.2⟩)
    have ed : w64 (((d + 1 : Nat) : Int) - 1) = (d : Int) := by rw [w64_in (by omega)]; omega
    have B0 : (0 : Int) ≤ ((24 * 4 ^ d : Nat) : Int) := by omega
    have mulS : ∀ j : Nat, ((j + 1 : Nat) : Int) * ((24 * 4 ^ d : Nat) : Int) = (j : Int) * ((24 * 4 ^ d : Nat) : Int) + ((24 * 4 ^ d : Nat) : Int) := fun j => by rw [Int.natCast_add, Int.add_mul]; simp
    have mulS' : ∀ j : Nat, (j + 1) * (1 + 24 * 4 ^ d) = j * (1 + 24 * 4 ^ d) + (1 + 24 * 4 ^ d) := fun j => by rw [Nat.add_mul]; omega
    have mul0 : ∀ j : Nat, 0 ≤ (j : Int) * ((24 * 4 ^ d : Nat) : Int) := fun j => Int.mul_nonneg (by omega) B0
    have mulL : ∀ j : Nat, j ≤ 3 → (j : Int) * ((24 * 4 ^ d : Nat) : Int) ≤ 3 * ((24 * 4 ^ d : Nat) : Int) := fun j hj => Int.mul_le_mul_of_nonneg_right (by omega) B0
    have mulL' : ∀ j : Nat, j ≤ 3 → j * (1 + 24 * 4 ^ d) ≤ 3 * (1 + 24 * 4 ^ d) := fun j hj => Nat.mul_le_mul_right _ hj
    refine TQ.bind (num_tq _ _ _ hv.1 (by omega) (by decide)) (fun v38 hv38 => ?_)
    obtain ⟨h38, hm38⟩ := hv38
    have hk38 : v38.1 ≠ 2 := by
      simp at hm38
      omega
    refine TQ.cond (fun _ => ?_) (fun _ => TQ.cond (fun _ => ?_) (fun _ => ?_))
    · -- a function
      have two : ∀ (g41 g46 : List Int) (g53 : Int) (b : List Int) (p : Int) (K' : Int), OkRd ⟨b, p⟩ K' → K' + ((24 * 4 ^ d : Nat) : Int) ≤ 1000000000 → g41.length + 2 * d ≤ 1000 → g46.length ≤ 3 →
          TQ (fun m => m_spec_l6Some_l2 m ((d + 1 : Nat) : Int) v38 g41 g46 g53 0 b p []) (fun r => OkRd r.2.2 (K' + ((24 * 4 ^ d : Nat) : Int)) ∧ r.1.w ≤ 6 + 24 * 4 ^ d ∧ r.1.fit) := by
        intro g41 g46 g53 b p K' hb hK' hg41 hg46
        refine TQ.step (fun m => by rw [m_spec_l6Some_l2, ed]) ?_
        refine TQ.cond (fun hc => ?_) (fun hc => by exfalso; simp at hc)
        refine TQ.bind (ih _ g41 g53 K' hb (by omega) hg41 hK') (fun v hv => ?_)
        refine TQ.chk (by simp) ?_
        refine TQ.step (fun m => by rw [m_spec_l6Some_l2]) ?_
        refine TQ.cond (fun hc => by exfalso; rw [w64_in (by omega)] at hc; simp at hc) (fun hc => TQ.val ⟨hv.1.mk', ?_, core_fit (by decide) (by omega) (leaf_fit (by decide)) (by simp) ⟨hv.2.2, trivial⟩⟩)
        have := hv.2.1
        simp only [Core.w, Core.ws, Form.w, Form.ws, List.length_nil, List.nil_append]
        omega
      refine TQ.bind (num_tq _ _ _ h38 (by omega) (by decide)) (fun v40 hv40 => ?_)
      obtain ⟨h40, hm40⟩ := hv40
      have one : ∀ (j : Nat) (g41 : List Int) (g42 : Int) (b : List Int) (p : Int) (g46 : List Int) (K' : Int), j ≤ 2 → OkRd ⟨b, p⟩ K' → K' + j + ((24 * 4 ^ d : Nat) : Int) ≤ 1000000000 → g41.length + j + 2 * d ≤ 1000 → g46.length + j ≤ 3 →
          TQ (fun m => m_spec_l6Some_l1 m ((d + 1 : Nat) : Int) v38 g41 g42 (j : Int) b p g46) (fun r => OkRd r.2.2 (K' + j + ((24 * 4 ^ d : Nat) : Int)) ∧ r.1.w ≤ 6 + 24 * 4 ^ d ∧ r.1.fit) := by
        intro j
        induction j with
        | zero =>
          intro g41 g42 b p g46 K' hj hb hK' h41 h46
          refine TQ.step (fun m => by rw [m_spec_l6Some_l1]) ?_
          refine TQ.cond (fun hc => by exfalso; simp at hc) (fun hc => ?_)
          exact (two g41 g46 g42 b p K' hb (by omega) (by omega) (by omega)).mono (fun r hr => ⟨hr.1.mono (by omega), hr.2⟩)
        | succ j ihj =>
          intro g41 g42 b p g46 K' hj hb hK' h41 h46
          refine TQ.step (fun m => by rw [m_spec_l6Some_l1]) ?_
          refine TQ.cond (fun hc => ?_) (fun hc => by exfalso; simp at hc; try omega)
          refine TQ.bind (num_tq _ _ _ hb (by omega) (by decide)) (fun v hv => ?_)
          refine TQ.chk (by simp; omega) (TQ.chk (by simp; omega) (TQ.chk (by simp; omega) ?_))
          have ew : w64 (((j + 1 : Nat) : Int) - 1) = (j : Int) := by rw [w64_in (by omega)]; omega
          rw [ew]
          exact (ihj _ _ _ _ _ _ (by omega) hv.1.mk' (by omega) (by simp; omega) (by simp; omega)).mono (fun r hr => ⟨hr.1.mono (by omega), hr.2⟩)
      have hj : v40.1 = ((1 : Nat) : Int) ∨ v40.1 = ((2 : Nat) : Int) ∨ v40.1 = ((0 : Nat) : Int) := by simpa using hm40
      rcases hj with e | e | e <;> rw [e]
      · exact (one 1 ids next _ _ [] _ (by omega) h40.mk' (by omega) (by omega) (by simp)).mono (fun r hr => ⟨hr.1.mono (by omega), by omega, hr.2.2⟩)
      · exact (one 2 ids next _ _ [] _ (by omega) h40.mk' (by omega) (by omega) (by simp)).mono (fun r hr => ⟨hr.1.mono (by omega), by omega, hr.2.2⟩)
      · exact (one 0 ids next _ _ [] _ (by omega) h40.mk' (by omega) (by omega) (by simp)).mono (fun r hr => ⟨hr.1.mono (by omega), by omega, hr.2.2⟩)
    · -- a call
      refine TQ.bind (num_tq _ _ _ h38 (by omega) (by decide)) (fun v63 hv63 => ?_)
      obtain ⟨h63, hm63⟩ := hv63
      have three : ∀ (N j : Nat) (g64 : Int) (b : List Int) (p : Int) (g68 : List Core) (K' : Int), v63.1 = ((N : Nat) : Int) → N ≤ 3 → j ≤ N → OkRd ⟨b, p⟩ K' → K' + (j : Int) * ((24 * 4 ^ d : Nat) : Int) ≤ 1000000000 → g68.length ≤ 3 - j → Core.fits g68 →
          TQ (fun m => m_spec_l6Some_l3 m ids ((d + 1 : Nat) : Int) v38 v63 g64 (((N - j : Nat)) : Int) b p g68) (fun r => OkRd r.2.2 (K' + (j : Int) * ((24 * 4 ^ d : Nat) : Int)) ∧ r.1.w ≤ 2 + Core.ws g68 + j * (1 + 24 * 4 ^ d) ∧ r.1.fit) := by
        intro N j
        induction j with
        | zero =>
          intro g64 b p g68 K' hN hN3 hj hb hK' hl hfl
          refine TQ.step (fun m => by rw [m_spec_l6Some_l3]) ?_
          refine TQ.cond (fun hc => by exfalso; rw [hN] at hc; simp at hc) (fun hc => TQ.val ⟨hb.mono (by simp), ?_, core_fit (by decide) (by simp) (leaf_fit (by decide)) (by omega) hfl⟩)
          simp only [Core.w, Form.w, Form.ws, List.length_nil]; omega
        | succ j ihj =>
          intro g64 b p g68 K' hN hN3 hj hb hK' hl hfl
          have m1 := mulS j
          have m2 := mulS' j
          have m3 := mul0 j
          refine TQ.step (fun m => by rw [m_spec_l6Some_l3, ed]) ?_
          refine TQ.cond (fun hc => ?_) (fun hc => by exfalso; rw [hN] at hc; simp at hc; omega)
          refine TQ.bind (ih _ ids g64 K' hb (by omega) (by omega) (by omega)) (fun v hv => ?_)
          refine TQ.chk (by simp; omega) ?_
          have ew : w64 (((N - (j + 1) : Nat) : Int) + 1) = ((N - j : Nat) : Int) := by rw [w64_in (by omega)]; omega
          rw [ew]
          refine (ihj _ _ _ _ _ hN hN3 (by omega) hv.1.mk' (by omega) (by simp; omega) (Core.fits_app hfl (core_one hv.2.2))).mono (fun r hr => ⟨hr.1.mono (by omega), ?_, hr.2.2⟩)
          have := hr.2.1
          rw [Core.ws_append] at this
          simp only [Core.ws] at this
          have hv2 := hv.2.1
          omega
      have hj : v63.1 = ((2 : Nat) : Int) ∨ v63.1 = ((1 : Nat) : Int) ∨ v63.1 = ((3 : Nat) : Int) := by simpa using hm63
      have fin : ∀ N : Nat, v63.1 = (N : Int) → N ≤ 3 → TQ (fun m => m_spec_l6Some_l3 m ids ((d + 1 : Nat) : Int) v38 v63 next 0 v63.2.b v63.2.p []) (fun r => OkRd r.2.2 (K + ((24 * 4 ^ (d + 1) : Nat) : Int)) ∧ r.1.w ≤ 24 * 4 ^ (d + 1) ∧ r.1.fit) := by
        intro N hN hN3
        have m1 := mulL N hN3
        have m2 := mulL' N hN3
        have := three N N next v63.2.b v63.2.p [] _ hN hN3 (Nat.le_refl _) h63.mk' (by omega) (by simp) trivial
        rw [Nat.sub_self] at this
        refine this.mono (fun r hr => ⟨hr.1.mono (by omega), ?_, hr.2.2⟩)
        have := hr.2.1
        simp only [Core.ws] at this
        omega
      rcases hj with e | e | e
      · exact fin 2 e (by omega)
      · exact fin 1 e (by omega)
      · exact fin 3 e (by omega)
    · -- a choice
      have four : ∀ (j : Nat) (g73 : Int) (b : List Int) (p : Int) (g77 : List Core) (K' : Int), j ≤ 3 → OkRd ⟨b, p⟩ K' → K' + (j : Int) * ((24 * 4 ^ d : Nat) : Int) ≤ 1000000000 → g77.length ≤ 3 - j → Core.fits g77 →
          TQ (fun m => m_spec_l6Some_l4 m ids ((d + 1 : Nat) : Int) v38 g73 (((3 - j : Nat)) : Int) b p g77) (fun r => OkRd r.2.2 (K' + (j : Int) * ((24 * 4 ^ d : Nat) : Int)) ∧ r.1.w ≤ 2 + Core.ws g77 + j * (1 + 24 * 4 ^ d) ∧ r.1.fit) := by
        intro j
        induction j with
        | zero =>
          intro g73 b p g77 K' hj hb hK' hl hfl
          refine TQ.step (fun m => by rw [m_spec_l6Some_l4]) ?_
          refine TQ.cond (fun hc => by exfalso; simp at hc) (fun hc => TQ.val ⟨hb.mono (by simp), ?_, core_fit (by decide) (by simp) (leaf_fit (by decide)) (by omega) hfl⟩)
          simp only [Core.w, Form.w, Form.ws, List.length_nil]; omega
        | succ j ihj =>
          intro g73 b p g77 K' hj hb hK' hl hfl
          have m1 := mulS j
          have m2 := mulS' j
          have m3 := mul0 j
          refine TQ.step (fun m => by rw [m_spec_l6Some_l4, ed]) ?_
          refine TQ.cond (fun hc => ?_) (fun hc => by exfalso; simp at hc; try omega)
          refine TQ.bind (ih _ ids g73 K' hb (by omega) (by omega) (by omega)) (fun v hv => ?_)
          refine TQ.chk (by simp; omega) ?_
          have ew : w64 (((3 - (j + 1) : Nat) : Int) + 1) = ((3 - j : Nat) : Int) := by rw [w64_in (by omega)]; omega
          rw [ew]
          refine (ihj _ _ _ _ _ (by omega) hv.1.mk' (by omega) (by simp; omega) (Core.fits_app hfl (core_one hv.2.2))).mono (fun r hr => ⟨hr.1.mono (by omega), ?_, hr.2.2⟩)
          have := hr.2.1
          rw [Core.ws_append] at this
          simp only [Core.ws] at this
          have hv2 := hv.2.1
          omega
      have m1 := mulL 3 (by omega)
      have m2 := mulL' 3 (by omega)
      refine (four 3 next v38.2.b v38.2.p [] _ (by omega) h38.mk' (by omega) (by simp) trivial).mono (fun r hr => ⟨hr.1.mono (by omega), ?_, hr.2.2⟩)
      have := hr.2.1
      simp only [Core.ws] at this
      omega
theorem Core.ws_set : ∀ (l : List Core) (i : Nat) (x : Core) (B : Nat), (∀ y, l[i]? = some y → x.w ≤ y.w + B) → Core.ws (l.set i x) ≤ Core.ws l + B
  | [], i, x, B, _ => by simp [Core.ws]
  | y :: l, 0, x, B, h => by
    have := h y rfl
    rw [List.set_cons_zero, Core.ws, Core.ws]; omega
  | y :: l, i + 1, x, B, h => by
    have := Core.ws_set l i x B (fun z hz => h z (by simpa using hz))
    rw [List.set_cons_succ, Core.ws, Core.ws]; omega
def mutL (v1 : Core) (o1 : l15Rd) (fuel : Nat) : Option (Core × l15Rd) :=
 (m_spec_l15Rd_pick fuel o1 12).bind fun v9 =>
 (bif (decide (v9.1 = 0)) then
 (m_spec_l15Rd_num fuel v9.2 [0, 8, 3, 6]).bind fun v11 =>
 some ((Core.mk v11.1 v1.id v1.name v1.n v1.ids v1.data v1.kids), v11.2)
 else
 (bif (decide (v9.1 = 1)) then
 (m_spec_l15Rd_num fuel v9.2 [0, 1, 1000, 2]).bind fun v13 =>
 some ((Core.mk v1.kind v13.1 v1.name v1.n v1.ids v1.data v1.kids), v13.2)
 else
 (bif (decide (v9.1 = 2)) then
 (m_spec_l15Rd_num fuel v9.2 [1, 900, 0]).bind fun v15 =>
 chk (decide ((v1.ids.length + [v15.1].length) * 8 ≤ 140737488355328)) <|
 some ((Core.mk v1.kind v1.id v1.name v1.n (v1.ids ++ [v15.1]) v1.data v1.kids), v15.2)
 else
 (bif (decide (v9.1 = 3)) then
 (m_spec_l15Rd_of fuel v9.2 [(⟨#[]⟩ : ByteArray), (⟨#[103]⟩ : ByteArray), (⟨#[65]⟩ : ByteArray)]).bind fun v18 =>
 some ((Core.mk v1.kind v1.id v18.1 v1.n v1.ids v1.data v1.kids), v18.2)
 else
 some (v1, v9.2)))))
theorem mutL_tq (v1 : Core) (o : l15Rd) (K : Int) (h : OkRd o K) (hK : K + 2 ≤ 1000000000) (hw : v1.w ≤ 2 ^ 36) : TQ (mutL v1 o) (fun r => OkRd r.2 (K + 2) ∧ r.1.w ≤ v1.w + 1 ∧ (v1.fit → r.1.fit)) := by
  have hk := v1.w_kids
  unfold mutL
  refine TQ.bind (pick_tq o 12 _ h (by omega)) (fun v hv => ?_)
  refine TQ.cond (fun _ => ?_) (fun _ => TQ.cond (fun _ => ?_) (fun _ => TQ.cond (fun _ => ?_) (fun _ => TQ.cond (fun _ => ?_) (fun _ => ?_))))
  · exact TQ.bind (num_tq _ _ _ hv.1 (by omega) (by decide)) (fun w hw => TQ.val ⟨hw.1.mono (by omega), by simp only [Core.w]; omega, fun hL => by obtain ⟨f1, f2, f3, f4, f5⟩ := hL.parts; exact core_fit f1 f2 f3 f4 f5⟩)
  · exact TQ.bind (num_tq _ _ _ hv.1 (by omega) (by decide)) (fun w hw => TQ.val ⟨hw.1.mono (by omega), by simp only [Core.w]; omega, fun hL => by obtain ⟨f1, f2, f3, f4, f5⟩ := hL.parts; exact core_fit f1 f2 f3 f4 f5⟩)
  · exact TQ.bind (num_tq _ _ _ hv.1 (by omega) (by decide)) (fun w hw => TQ.chk (by simp; omega) (TQ.val ⟨hw.1.mono (by omega), by simp only [Core.w, List.length_append, List.length_cons, List.length_nil]; omega, fun hL => by obtain ⟨f1, f2, f3, f4, f5⟩ := hL.parts; exact core_fit f1 (by simp; omega) f3 f4 f5⟩))
  · exact TQ.bind (of_tq _ _ _ hv.1 (by omega) (by decide)) (fun w hw => TQ.val ⟨hw.1.mono (by omega), by simp only [Core.w]; omega, fun hL => by obtain ⟨f1, f2, f3, f4, f5⟩ := hL.parts; exact core_fit (nm_fit (by decide) hw.2) f2 f3 f4 f5⟩)
  · exact TQ.val ⟨hv.1.mono (by omega), Nat.le_succ _, fun hL => hL⟩
theorem l6Mutate_tq : ∀ (n : Nat) (c : Core) (o : l15Rd) (K : Int), c.w ≤ n → OkRd o K → c.w ≤ 2 ^ 30 → K + 3 * c.w ≤ 100000000000 → K + 3 * c.w ≤ 1000000000 → TQ (fun m => m_spec_l6Mutate m o c) (fun r => OkRd r.2 (K + 3 * c.w) ∧ r.1.w ≤ c.w + 1 ∧ (c.fit → r.1.fit)) := by
  intro n
  induction n with
  | zero => intro c o K h; have := c.w_kids; omega
  | succ n ih =>
    intro c o K h ho hb hK hK2
    have hw := c.w_kids
    refine TQ.step (fun m => by rw [m_spec_l6Mutate]) ?_
    refine TQ.ev (l6Copy_tr _ c (Nat.le_refl _) (by omega)) ?_
    refine TQ.cond (fun hc => ?_) (fun _ => ?_)
    · have hpos : 0 < c.kids.length := by simpa using hc
      have hl := Core.ws_len c.kids
      refine TQ.bind (pick_tq o 2 _ ho (by omega)) (fun v hv => ?_)
      refine TQ.cond (fun _ => ?_) (fun _ => ?_)
      · refine TQ.bind (pick_tq _ _ _ hv.1 (by omega)) (fun w hw2 => ?_)
        obtain ⟨h1, _, h2, _⟩ := hw2
        obtain ⟨h2, h3⟩ := h2 (by omega)
        obtain ⟨x, hx, hm⟩ := idx_int h2 h3
        have hxw := Core.ws_mem hm
        have hx2 := (idx_some hx).2.2
        obtain ⟨r, hr, q1, q2, q3⟩ := ih x w.2 _ (by omega) h1 (by omega) (by omega) (by omega)
        refine ⟨_, Tr.idx hx (Tr.bind hr (Tr.idx hx Tr.val)), q1.mono (by omega), ?_, fun hL => by obtain ⟨f1, f2, f3, f4, f5⟩ := hL.parts; exact core_fit f1 f2 f3 (by rw [List.length_set]; exact f4) (Core.fits_set _ _ _ f5 (q3 (Core.fits_mem f5 hm)))⟩
        have := Core.ws_set c.kids w.1.toNat r.1 1 (fun y hy => by rw [hx2] at hy; cases hy; exact q2)
        simp only [Core.w]; omega
      · exact (mutL_tq c _ _ hv.1 (by omega) (by omega)).mono (fun r hr => ⟨hr.1.mono (by omega), hr.2⟩)
    · exact (mutL_tq c _ _ ho (by omega) (by omega)).mono (fun r hr => ⟨hr.1.mono (by omega), hr.2⟩)
theorem l6Draw_tq (code : List Int) (h : ∀ x ∈ code, 0 ≤ x ∧ x < 256) : TQ (fun m => m_spec_l6Draw m code) (fun c => c.w ≤ 2 ^ 20 ∧ c.fit) := by
  refine TQ.eq (fun m => by unfold m_spec_l6Draw; rfl) ?_
  refine TQ.bind (open_tq code h) (fun o ho => ?_)
  refine TQ.bind (num_tq _ _ _ ho (by omega) (by decide)) (fun v hv => ?_)
  obtain ⟨h1, hm⟩ := hv
  have hd : ∃ d : Nat, v.1 = (d : Int) ∧ d ≤ 4 := by
    have : v.1 = 3 ∨ v.1 = 4 ∨ v.1 = 2 := by simpa using hm
    rcases this with e | e | e
    · exact ⟨3, e, by omega⟩
    · exact ⟨4, e, by omega⟩
    · exact ⟨2, e, by omega⟩
  obtain ⟨d, hd, hd4⟩ := hd
  rw [hd]
  have hp : 4 ^ d ≤ 4 ^ 4 := Nat.pow_le_pow_right (by decide) hd4
  have e4 : (4 : Nat) ^ 4 = 256 := rfl
  refine TQ.bind (l6Some_tq d v.2 [] 0 _ h1 (by omega) (by simp; omega) (by omega)) (fun w hw => ?_)
  obtain ⟨h2, hw, hL⟩ := hw
  refine TQ.bind (pick_tq _ 8 _ h2 (by omega)) (fun u hu => ?_)
  refine TQ.cond (fun _ => ?_) (fun _ => TQ.val ⟨by omega, hL⟩)
  refine TQ.bind (l6Mutate_tq _ w.1 u.2 _ (Nat.le_refl _) hu.1 (by omega) (by omega) (by omega)) (fun y hy => ?_)
  refine TQ.bind (l6Mutate_tq _ y.1 y.2 _ (Nat.le_refl _) hy.1 (by omega) (by omega) (by omega)) (fun z hz => ?_)
  exact TQ.val ⟨by omega, hz.2.2 (hy.2.2 hL)⟩
theorem okF_ids {c : Core} {ar : List Int} (h : c.okF ar = true) (hk : c.kind ≠ 5) : c.ids = [] := by
  rw [okF_eq, Bool.and_eq_true, Bool.and_eq_true] at h
  have h1 := h.2.1
  unfold Core.fl Core.fl1 Core.fl2 Core.fl3 at h1
  simp only [Bool.and_eq_true] at h1
  have h2 := h1.2.2.2.2
  unfold Core.fl4 at h2
  rw [decide_eq_false hk, cond_false] at h2
  have := of_decide_eq_true h2
  exact List.eq_nil_of_length_eq_zero (by omega)
end Go.Abs
end
section
set_option linter.unusedVariables false
set_option linter.unusedSimpArgs false
set_option maxHeartbeats 4000000
namespace Go.Abs
def findI (l : List Int) (x : Int) : Int := match l.reverse.findIdx? (fun y => decide (y = x)) with | some i => (i : Int) | none => -1
theorem findI_at {l : List Int} {x : Int} {i : Nat} (h : l.reverse.findIdx? (fun y => decide (y = x)) = some i) : findI l x = i := by unfold findI; rw [h]
theorem find_at : ∀ (q : List Int) (i : Nat) (x : Int), q.Nodup → q[i]? = some x → q.findIdx? (fun y => decide (y = x)) = some i
  | y :: q, 0, x, hn, h => by
    have : y = x := by simpa using h
    rw [List.findIdx?_cons, if_pos (decide_eq_true this)]
  | y :: q, i + 1, x, hn, h => by
    have h' : q[i]? = some x := by simpa using h
    have hy : y ≠ x := fun e => (List.nodup_cons.1 hn).1 (e ▸ List.mem_of_getElem? h')
    rw [List.findIdx?_cons, if_neg (by simpa using hy), find_at q i x (List.nodup_cons.1 hn).2 h']
    rfl
theorem findI_nodup {l : List Int} (hn : l.Nodup) {i : Nat} {x : Int} (h : l[i]? = some x) : findI l x = ((l.length - 1 - i : Nat) : Int) := by
  have hi := (List.getElem?_eq_some_iff.1 h).1
  refine findI_at (find_at l.reverse _ x (List.pairwise_reverse.2 (List.Pairwise.imp (fun h => Ne.symm h) hn)) ?_)
  rw [List.getElem?_reverse (by omega), show l.length - 1 - (l.length - 1 - i) = i by omega]
  exact h
theorem l6Last_tr (l : List Int) (x : Int) (hl : l.length ≤ 2 ^ 40) : Tr (fun m => m_spec_l6Last m l x) (findI l x) := by
  refine Tr.eq (fun m => by unfold m_spec_l6Last; rw [w64_in (by omega)]) ?_
  have key : ∀ j, j ≤ l.length → Tr (fun m => m_spec_l6Last_l1 m l x ((j : Int) - 1)) (match (l.take j).reverse.findIdx? (fun y => decide (y = x)) with | some i => ((l.length - j + i : Nat) : Int) | none => -1) := by
    intro j
    induction j with
    | zero =>
      intro _
      refine Tr.step (fun m => by rw [m_spec_l6Last_l1, decide_eq_false (show ¬ (0 : Int) ≤ ((0 : Nat) : Int) - 1 by omega), cond_false]) ?_
      rw [List.take_zero]; exact Tr.val
    | succ j ih =>
      intro hj
      obtain ⟨y, hy⟩ : ∃ y, l[j]? = some y := ⟨l[j], List.getElem?_eq_getElem (by omega)⟩
      have e : ((j + 1 : Nat) : Int) - 1 = (j : Int) := by omega
      rw [e, List.take_add_one, hy, Option.toList_some, List.reverse_append, List.reverse_singleton, List.singleton_append, List.findIdx?_cons]
      refine Tr.step (fun m => by rw [m_spec_l6Last_l1]) (Tr.tt (decide_eq_true (by omega)) (Tr.idx (idx_nat hy) ?_))
      by_cases hyx : y = x
      · refine Tr.tt (decide_eq_true hyx) ?_
        rw [if_pos (decide_eq_true hyx), w64_in (n := (l.length : Int) - 1) (by omega), w64_in (by omega)]
        exact Tr.of (fun m => by congr 1; simp only []; omega)
      · refine Tr.ff (decide_eq_false hyx) ?_
        rw [if_neg (by simpa using hyx), w64_in (by omega)]
        have := ih (by omega)
        cases hf : (l.take j).reverse.findIdx? (fun y => decide (y = x)) with
        | none => rw [hf] at this; exact this
        | some i =>
          rw [hf] at this
          simp only [Option.map_some] at this ⊢
          rw [show l.length - (j + 1) + (i + 1) = l.length - j + i by omega]; exact this
  have := key l.length (Nat.le_refl _)
  rw [List.take_length] at this
  unfold findI
  cases hf : l.reverse.findIdx? (fun y => decide (y = x)) with
  | none => rw [hf] at this; exact this
  | some i =>
    rw [hf] at this
    simp only [] at this ⊢
    rwa [show l.length - l.length + i = i by omega] at this
mutual
noncomputable def Core.alk : Core → Core → List Int → List Int → Bool
  | .mk k i nm n ids data kids, b, l, r => decide (k = b.kind) && (decide (nm = b.name) && (decide (n = b.n) && (decide (ids.length = b.ids.length) && (same data b.data && (decide (kids.length = b.kids.length) && ((bif decide (k = 1) then decide (findI l i = findI r b.id) else true) && Core.alks kids b.kids (l ++ ids) (r ++ b.ids)))))))
noncomputable def Core.alks : List Core → List Core → List Int → List Int → Bool
  | [], _, _, _ => true
  | x :: xs, ys, l, r => match ys with
    | [] => false
    | y :: ys => x.alk y l r && Core.alks xs ys l r
end
theorem Core.alk_eq (a b : Core) (l r : List Int) : a.alk b l r = (decide (a.kind = b.kind) && (decide (a.name = b.name) && (decide (a.n = b.n) && (decide (a.ids.length = b.ids.length) && (same a.data b.data && (decide (a.kids.length = b.kids.length) && ((bif decide (a.kind = 1) then decide (findI l a.id = findI r b.id) else true) && Core.alks a.kids b.kids (l ++ a.ids) (r ++ b.ids)))))))) := by
  obtain ⟨a1, a2, a3, a4, a5, a6, a7⟩ := a; rw [Core.alk]; rfl
theorem drop_one {α : Type} {l : List α} {k : Nat} {x : α} (h : l[k]? = some x) : l.drop k = x :: l.drop (k + 1) := by
  obtain ⟨h1, h2⟩ := List.getElem?_eq_some_iff.1 h
  rw [List.drop_eq_getElem_cons h1, h2]
theorem loop_alk {xs ys : List Core} (hl : xs.length = ys.length) {l r : List Int} {L : Nat → Int → Option Bool} {E : Nat → Core → Core → Option Bool}
    (h0 : ∀ m k, L (m + 1) k = bif decide (k < (xs.length : Int)) then (idx xs k).bind fun a => (idx ys k).bind fun b => (E m a b).bind fun v => bif !v then some false else L m (k + 1) else some true)
    (hE : ∀ a ∈ xs, ∀ b ∈ ys, Tr (fun m => E m a b) (a.alk b l r)) : Tr (fun m => L m 0) (Core.alks xs ys l r) := by
  have key := drop_ind xs (fun k zs => Tr (fun m => L m (k : Int)) (Core.alks zs (ys.drop k) l r)) ?_ ?_ 0 (Nat.zero_le _)
  · simpa using key
  · refine Tr.step (fun m => by rw [h0, ltN_self, cond_false]) ?_
    rw [Core.alks]; exact Tr.val
  · intro k x zs hk hx hd ih
    obtain ⟨y, hy⟩ : ∃ y, ys[k]? = some y := ⟨ys[k]'(by omega), List.getElem?_eq_getElem _⟩
    rw [drop_one hy, Core.alks]
    refine Tr.step (fun m => by rw [h0, ltN hk, cond_true, idx_nat hx, Option.bind_some, idx_nat hy, Option.bind_some, succN]) ?_
    refine Tr.bind (hE x (List.mem_of_getElem? hx) y (List.mem_of_getElem? hy)) ?_
    cases x.alk y l r with
    | false => exact Tr.tt rfl Tr.val
    | true => exact Tr.ff rfl ih
theorem specAlike_n : ∀ (n : Nat) (a b : Core) (l r : List Int), a.w ≤ n → l.length + a.w ≤ 2 ^ 36 → r.length + b.w ≤ 2 ^ 36 → Tr (fun m => m_spec_l6Alike m a b l r) (a.alk b l r) := by
  intro n
  induction n with
  | zero => intro a b l r h; have := a.w_pos; omega
  | succ n ih =>
    intro a b l r h hb hb2
    have hw := a.w_kids
    have hw2 := b.w_kids
    have stop : Tr (fun m => m_spec_l6Alike_j1 m a b l r true) false := Tr.step (fun m => by rw [m_spec_l6Alike_j1, cond_true]) Tr.val
    rw [Core.alk_eq]
    refine Tr.step (fun m => by rw [m_spec_l6Alike]) ?_
    by_cases h1 : a.kind = b.kind
    case neg => rw [decide_eq_false h1]; exact Tr.tt (decide_eq_true h1) stop
    refine Tr.ff (decide_eq_false (fun h => h h1)) ?_
    rw [decide_eq_true h1, Bool.true_and]
    by_cases h2 : a.name = b.name
    case neg => rw [decide_eq_false h2]; exact Tr.tt (decide_eq_true h2) stop
    refine Tr.ff (decide_eq_false (fun h => h h2)) ?_
    rw [decide_eq_true h2, Bool.true_and]
    by_cases h3 : a.n = b.n
    case neg => rw [decide_eq_false h3]; exact Tr.tt (decide_eq_true h3) stop
    refine Tr.ff (decide_eq_false (fun h => h h3)) ?_
    rw [decide_eq_true h3, Bool.true_and]
    by_cases h4 : a.ids.length = b.ids.length
    case neg => rw [decide_eq_false h4]; exact Tr.tt (lenB h4) stop
    refine Tr.ff (lenE h4) (Tr.bind (specFormSame_tr _ _) ?_)
    rw [decide_eq_true h4, Bool.true_and]
    cases same a.data b.data with
    | false => exact Tr.tt rfl stop
    | true =>
    refine Tr.ff rfl ?_
    rw [Bool.true_and]
    by_cases h5 : a.kids.length = b.kids.length
    case neg => rw [decide_eq_false h5]; refine Tr.eq (fun m => by rw [lenB h5]) stop
    rw [decide_eq_true h5, Bool.true_and]
    refine Tr.eq (fun m => by rw [lenE h5]) (Tr.step (fun m => by rw [m_spec_l6Alike_j1, cond_false]) ?_)
    have rest : Tr (fun m => m_spec_l6Alike_j2 m a b l r) (Core.alks a.kids b.kids (l ++ a.ids) (r ++ b.ids)) := by
      refine Tr.step (fun m => by rw [m_spec_l6Alike_j2]) (Tr.chk (by simp; omega) (Tr.chk (by simp; omega) (Tr.chk (by simp; omega) (Tr.chk (by simp; omega) ?_))))
      rw [List.nil_append, List.nil_append]
      exact loop_alk h5 (L := fun m k => m_spec_l6Alike_l3 m a b k (l ++ a.ids) (r ++ b.ids)) (E := fun m x y => m_spec_l6Alike m x y (l ++ a.ids) (r ++ b.ids)) (fun m k => by rw [m_spec_l6Alike_l3]) (fun x hx y hy => ih x y _ _ (by have := Core.ws_mem hx; omega) (by have := Core.ws_mem hx; simp; omega) (by have := Core.ws_mem hy; simp; omega))
    by_cases k1 : a.kind = 1
    · refine Tr.tt (decide_eq_true k1) (Tr.bind (l6Last_tr l _ (by omega)) (Tr.bind (l6Last_tr r _ (by omega)) ?_))
      rw [decide_eq_true k1, cond_true]
      by_cases hf : findI l a.id = findI r b.id
      · rw [decide_eq_true hf, Bool.true_and]; exact Tr.ff (decide_eq_false (fun h => h hf)) rest
      · rw [decide_eq_false hf]; exact Tr.tt (decide_eq_true hf) Tr.val
    · rw [decide_eq_false k1, cond_false, Bool.true_and]; exact Tr.ff rfl rest
structure AInv (m : Int → Option Int) (l r : List Int) : Prop where
  len : l.length = r.length
  nl : l.Nodup
  nr : r.Nodup
  at_ : ∀ (i : Nat) (x : Int), l[i]? = some x → m x = r[i]?
theorem AInv.nil : AInv map0 [] [] := ⟨rfl, List.nodup_nil, List.nodup_nil, fun i x h => by simp at h⟩
theorem AInv.get {m : Int → Option Int} {l r : List Int} (h : AInv m l r) {x : Int} (hx : x ∈ l) : ∃ (i : Nat) (y : Int), l[i]? = some x ∧ r[i]? = some y ∧ mapGet m x = y := by
  obtain ⟨i, hi⟩ := List.mem_iff_getElem?.1 hx
  have hl := (List.getElem?_eq_some_iff.1 hi).1
  have hr : r[i]? = some (r[i]'(by have := h.len; omega)) := List.getElem?_eq_getElem _
  refine ⟨i, _, hi, hr, ?_⟩
  unfold mapGet; rw [h.at_ i x hi, hr]; rfl
theorem AInv.var {m : Int → Option Int} {l r : List Int} (h : AInv m l r) {x y : Int} (hx : x ∈ l) (hy : y ∈ r) : decide (mapGet m x = y) = decide (findI l x = findI r y) := by
  obtain ⟨i, z, hi, hz, hm⟩ := h.get hx
  obtain ⟨j, hj⟩ := List.mem_iff_getElem?.1 hy
  have h1 := (List.getElem?_eq_some_iff.1 hi).1
  have h2 := (List.getElem?_eq_some_iff.1 hj).1
  have h3 := h.len
  rw [hm, findI_nodup h.nl hi, findI_nodup h.nr hj, Bool.eq_iff_iff, decide_eq_true_iff, decide_eq_true_iff]
  constructor
  · intro e
    have : i = j := by
      rw [e] at hz
      have := find_at r i y h.nr hz
      rw [find_at r j y h.nr hj] at this
      exact (Option.some.inj this).symm
    omega
  · intro e
    have : i = j := by omega
    subst this
    rw [hj] at hz; exact (Option.some.inj hz).symm
theorem AInv.add {m : Int → Option Int} {l r : List Int} (h : AInv m l r) {x y : Int} (hx : (l ++ [x]).Nodup) (hy : (r ++ [y]).Nodup) : AInv (mapSet m x y) (l ++ [x]) (r ++ [y]) := by
  refine ⟨by simp [h.len], hx, hy, fun i z hz => ?_⟩
  unfold mapSet
  have hlen := h.len
  by_cases hi : i < l.length
  · rw [List.getElem?_append_left hi] at hz
    rw [List.getElem?_append_left (by omega)]
    have : z ≠ x := fun e => by
      have h1 := (List.nodup_append.1 hx).2.2 z (List.mem_of_getElem? hz) x (by simp)
      exact h1 e
    rw [if_neg this]; exact h.at_ i z hz
  · rw [List.getElem?_append_right (by omega)] at hz
    rw [List.getElem?_append_right (by omega)]
    have h0 : i - l.length = 0 := by
      rcases Nat.eq_zero_or_pos (i - l.length) with h | h
      · exact h
      · rw [List.getElem?_eq_none (by simp; omega)] at hz; cases hz
    rw [h0] at hz
    have e : z = x := by simpa using hz.symm
    rw [if_pos e, show i - r.length = 0 by omega]; rfl
theorem hasB_iff {l : List Int} {x : Int} : hasB l x = true ↔ x ∈ l := by
  unfold hasB
  induction l with
  | nil => simp [anys]
  | cons y l ih => rw [anys, Bool.or_eq_true, ih, decide_eq_true_iff, List.mem_cons]; exact ⟨fun h => h.imp Eq.symm id, fun h => h.imp Eq.symm id⟩
theorem idsOk_nodup : ∀ (xs ar : List Int), ar.Nodup → idsOk ar xs = true → (ar ++ xs).Nodup
  | [], ar, h, _ => by simpa using h
  | x :: xs, ar, h, hk => by
    simp only [idsOk, Bool.and_eq_true, Bool.not_eq_true'] at hk
    have hx : x ∉ ar := fun hm => by rw [hasB_iff.2 hm] at hk; cases hk.2.1
    have : (ar ++ [x]).Nodup := List.nodup_append.2 ⟨h, by simp, fun a ha b hb e => hx (by simp only [List.mem_singleton] at hb; subst hb; subst e; exact ha)⟩
    have := idsOk_nodup xs (ar ++ [x]) this hk.2.2
    simpa using this
theorem okF_var {c : Core} {ar : List Int} (h : c.okF ar = true) (k : c.kind = 1) : c.id ∈ ar ∧ c.name = e0 ∧ c.n = 0 ∧ c.ids = [] ∧ c.data = form0 ∧ c.kids = [] := by
  rw [Core.okF, decide_eq_true k, cond_true] at h
  simp only [Bool.and_eq_true, decide_eq_true_eq, same_iff, lenI] at h
  obtain ⟨_, h1, h2, h3, h4, h5, h6⟩ := h
  exact ⟨hasB_iff.1 h1, h2, h3, h4, h5, List.eq_nil_of_length_eq_zero (by omega)⟩
theorem okF_fn {c : Core} {ar : List Int} (h : c.okF ar = true) (k : c.kind = 5) : idsOk ar c.ids = true ∧ c.name = e0 ∧ c.n = 0 ∧ c.data = form0 ∧ c.kids.length = 1 ∧ c.id = 0 := by
  unfold Core.okF at h
  simp only [k, Int.reduceEq, decide_true, decide_false, cond_true, cond_false, Bool.and_eq_true, decide_eq_true_eq, same_iff, lenI] at h
  obtain ⟨h1, h0, h2, h3, h4, h5⟩ := h
  exact ⟨h1, h2, h3, h4, by omega, h0⟩
theorem okF_id0 {c : Core} {ar : List Int} (h : c.okF ar = true) (k : c.kind ≠ 1) : c.id = 0 := by
  rw [Core.okF, decide_eq_false k, cond_false] at h
  by_cases k2 : c.kind = 2
  · simp only [k2, Int.reduceEq, decide_true, decide_false, cond_true, cond_false, Bool.and_eq_true, decide_eq_true_eq] at h; exact h.2.1
  by_cases k3 : c.kind = 3
  · simp only [k3, Int.reduceEq, decide_true, decide_false, cond_true, cond_false, Bool.and_eq_true, decide_eq_true_eq] at h; exact h.2.1
  by_cases k4 : c.kind = 4
  · simp only [k4, Int.reduceEq, decide_true, decide_false, cond_true, cond_false, Bool.and_eq_true, decide_eq_true_eq] at h; exact h.2.1
  by_cases k5 : c.kind = 5
  · simp only [k5, Int.reduceEq, decide_true, decide_false, cond_true, cond_false, Bool.and_eq_true, decide_eq_true_eq] at h; exact h.2.1
  by_cases k6 : c.kind = 6
  · simp only [k6, Int.reduceEq, decide_true, decide_false, cond_true, cond_false, Bool.and_eq_true, decide_eq_true_eq] at h; exact h.1
  by_cases k7 : c.kind = 7
  · simp only [k7, Int.reduceEq, decide_true, decide_false, cond_true, cond_false, Bool.and_eq_true, decide_eq_true_eq] at h; exact h.1
  simp only [k2, k3, k4, k5, k6, k7, decide_false, cond_false] at h; cases h
theorem isOk_parts {c : Core} {ar : List Int} {d : Nat} (h : c.isOk ar d = true) : c.okF ar = true ∧ ∀ x ∈ c.kids, x.isOk (ar ++ c.ids) (d - 1) = true := by
  rw [Core.isOk_eq] at h
  by_cases hd : d = 0
  · rw [decide_eq_true hd] at h; cases h
  rw [decide_eq_false hd, cond_false, Bool.and_eq_true] at h
  exact ⟨h.1, alls_iff.1 h.2⟩
theorem alks_nil {l r : List Int} : Core.alks [] [] l r = true := by rw [Core.alks]
theorem alks_one {x y : Core} {l r : List Int} : Core.alks [x] [y] l r = x.alk y l r := by rw [Core.alks]; simp only [Core.alks, Bool.and_true]
theorem implAlike_n : ∀ (n : Nat) (a b : Core) (l r : List Int) (d e : Nat), a.w ≤ n → a.isOk l d = true → b.isOk r e = true →
    (∀ mp, AInv mp l r → Tr (fun m => m_impl_alike m a b mp) (a.alk b l r)) ∧ (l = [] → r = [] → Tr (fun m => m_impl_alike_n m a b) (a.alk b l r)) := by
  intro n
  induction n with
  | zero => intro a b l r d e h; have := a.w_pos; omega
  | succ n ih =>
    intro a b l r d e h ha hb
    have hw := a.w_kids
    obtain ⟨fa, ka⟩ := isOk_parts ha
    obtain ⟨fb, kb⟩ := isOk_parts hb
    have ids0 : a.kind ≠ 5 → b.kind ≠ 5 → a.ids = [] ∧ b.ids = [] := fun h1 h2 => ⟨okF_ids fa h1, okF_ids fb h2⟩
    -- a function
    have fn : ∀ mp, AInv mp l r → a.kind = 5 → b.kind = 5 → a.ids.length = b.ids.length → a.kids.length = b.kids.length → Tr (fun m => m_impl_alike_l3 m a b 0 mp) (Core.alks a.kids b.kids (l ++ a.ids) (r ++ b.ids)) := by
      intro mp hI k5 k5' hil hkl
      obtain ⟨i1, _, _, _, q1, _⟩ := okF_fn fa k5
      obtain ⟨i2, _, _, _, q2, _⟩ := okF_fn fb k5'
      have n1 := idsOk_nodup _ _ hI.nl i1
      have n2 := idsOk_nodup _ _ hI.nr i2
      obtain ⟨x, hx⟩ := List.length_eq_one_iff.1 q1
      obtain ⟨y, hy⟩ := List.length_eq_one_iff.1 q2
      have key := drop_ind a.ids (fun k zs => ∀ g, AInv g (l ++ a.ids.take k) (r ++ b.ids.take k) → Tr (fun m => m_impl_alike_l3 m a b (k : Int) g) (Core.alks a.kids b.kids (l ++ a.ids) (r ++ b.ids))) ?_ ?_ 0 (Nat.zero_le _) mp (by simpa using hI)
      · simpa using key
      · intro g hg
        rw [List.take_length, hil, List.take_length] at hg
        refine Tr.step (fun m => by rw [m_impl_alike_l3, ltN_self, cond_false]) (Tr.step (fun m => by rw [m_impl_alike_j2]) ?_)
        rw [hx, hy, alks_one]
        have := (ih x y (l ++ a.ids) (r ++ b.ids) (d - 1) (e - 1) (by have := Core.ws_mem (show x ∈ a.kids by rw [hx]; simp); omega) (ka x (by rw [hx]; simp)) (kb y (by rw [hy]; simp))).1 g hg
        exact Tr.idx (idx_nat (k := 0) (by simp)) (Tr.idx (idx_nat (k := 0) (by simp)) (Tr.bind this Tr.val))
      · intro k x zs hk hx hd ihk g hg
        obtain ⟨y, hy⟩ : ∃ y, b.ids[k]? = some y := ⟨b.ids[k]'(by omega), List.getElem?_eq_getElem _⟩
        refine Tr.step (fun m => by rw [m_impl_alike_l3, ltN hk, cond_true, idx_nat hx, Option.bind_some, idx_nat hy, Option.bind_some, succN]) (ihk _ ?_)
        have t1 : l ++ a.ids.take (k + 1) = (l ++ a.ids.take k) ++ [x] := by rw [List.take_add_one, hx, List.append_assoc]; rfl
        have t2 : r ++ b.ids.take (k + 1) = (r ++ b.ids.take k) ++ [y] := by rw [List.take_add_one, hy, List.append_assoc]; rfl
        rw [t1, t2]
        refine hg.add ?_ ?_
        · rw [← t1]; exact n1.sublist (List.Sublist.append_left (List.take_sublist _ _) _)
        · rw [← t2]; exact n2.sublist (List.Sublist.append_left (List.take_sublist _ _) _)
    rw [Core.alk_eq]
    constructor
    · intro mp hI
      have stop : Tr (fun m => m_impl_alike_j1 m a b mp true) false := Tr.step (fun m => by rw [m_impl_alike_j1, cond_true]) Tr.val
      refine Tr.step (fun m => by rw [m_impl_alike]) ?_
      by_cases h1 : a.kind = b.kind
      case neg => rw [decide_eq_false h1]; exact Tr.tt (decide_eq_true h1) stop
      refine Tr.ff (decide_eq_false (fun h => h h1)) ?_
      by_cases h5 : a.kids.length = b.kids.length
      case neg => rw [decide_eq_false h5]; simp only [Bool.false_and, Bool.and_false]; exact Tr.tt (lenB h5) stop
      refine Tr.ff (lenE h5) ?_
      by_cases h4 : a.ids.length = b.ids.length
      case neg => rw [decide_eq_false h4]; simp only [Bool.false_and, Bool.and_false]; exact Tr.eq (fun m => by rw [lenB h4]) stop
      refine Tr.eq (fun m => by rw [lenE h4]) (Tr.step (fun m => by rw [m_impl_alike_j1, cond_false]) ?_)
      rw [decide_eq_true h1, decide_eq_true h4, decide_eq_true h5]
      by_cases k1 : a.kind = 1
      · obtain ⟨q1, q2, q3, q4, q5, q6⟩ := okF_var fa k1
        obtain ⟨p1, p2, p3, p4, p5, p6⟩ := okF_var fb (h1 ▸ k1)
        refine Tr.tt (decide_eq_true k1) ?_
        rw [q2, p2, q3, p3, q5, p5, q6, p6, same_self, decide_eq_true k1, cond_true, alks_nil, hI.var q1 p1]
        exact Tr.of (fun m => by simp)
      refine Tr.ff (decide_eq_false k1) ?_
      rw [decide_eq_false k1, cond_false]
      by_cases k5 : a.kind = 5
      · obtain ⟨_, q2, q3, q4, _, _⟩ := okF_fn fa k5
        obtain ⟨_, p2, p3, p4, _, _⟩ := okF_fn fb (h1 ▸ k5)
        refine Tr.tt (decide_eq_true k5) ?_
        rw [q2, p2, q3, p3, q4, p4, same_self]
        simpa using fn mp hI k5 (h1 ▸ k5) h4 h5
      refine Tr.ff (decide_eq_false k5) ?_
      obtain ⟨e1, e2⟩ := ids0 k5 (h1 ▸ k5)
      have stop4 : Tr (fun m => m_impl_alike_j4 m a b mp true) false := Tr.step (fun m => by rw [m_impl_alike_j4, cond_true]) Tr.val
      by_cases h2 : a.name = b.name
      case neg => rw [decide_eq_false h2]; exact Tr.tt (decide_eq_true h2) stop4
      refine Tr.ff (decide_eq_false (fun h => h h2)) ?_
      by_cases h3 : a.n = b.n
      case neg => rw [decide_eq_false h3]; simp only [Bool.false_and, Bool.and_false]; exact Tr.tt (decide_eq_true h3) stop4
      refine Tr.ff (decide_eq_false (fun h => h h3)) (Tr.bind (implFormSame_tr _ _) ?_)
      rw [decide_eq_true h2, decide_eq_true h3]
      cases same a.data b.data with
      | false => exact stop4
      | true =>
      refine Tr.step (fun m => by rw [Bool.not_true, m_impl_alike_j4, cond_false]) ?_
      simp only [Bool.true_and]
      rw [e1, e2, List.append_nil, List.append_nil]
      rw [e1, List.append_nil] at ka
      rw [e2, List.append_nil] at kb
      exact loop_alk h5 (L := fun m k => m_impl_alike_l5 m a b mp k) (E := fun m x y => m_impl_alike m x y mp) (fun m k => by rw [m_impl_alike_l5]) (fun x hx y hy => (ih x y l r (d - 1) (e - 1) (by have := Core.ws_mem hx; omega) (ka x hx) (kb y hy)).1 mp hI)
    · rintro rfl rfl
      have stop : Tr (fun m => m_impl_alike_n_j1 m a b true) false := Tr.step (fun m => by rw [m_impl_alike_n_j1, cond_true]) Tr.val
      refine Tr.step (fun m => by rw [m_impl_alike_n]) ?_
      by_cases h1 : a.kind = b.kind
      case neg => rw [decide_eq_false h1]; exact Tr.tt (decide_eq_true h1) stop
      refine Tr.ff (decide_eq_false (fun h => h h1)) ?_
      by_cases h5 : a.kids.length = b.kids.length
      case neg => rw [decide_eq_false h5]; simp only [Bool.false_and, Bool.and_false]; exact Tr.tt (lenB h5) stop
      refine Tr.ff (lenE h5) ?_
      by_cases h4 : a.ids.length = b.ids.length
      case neg => rw [decide_eq_false h4]; simp only [Bool.false_and, Bool.and_false]; exact Tr.eq (fun m => by rw [lenB h4]) stop
      refine Tr.eq (fun m => by rw [lenE h4]) (Tr.step (fun m => by rw [m_impl_alike_n_j1, cond_false]) ?_)
      rw [decide_eq_true h1, decide_eq_true h4, decide_eq_true h5]
      by_cases k1 : a.kind = 1
      · exact absurd (okF_var fa k1).1 (by simp)
      refine Tr.ff (decide_eq_false k1) ?_
      rw [decide_eq_false k1, cond_false]
      by_cases k5 : a.kind = 5
      · obtain ⟨_, q2, q3, q4, _, _⟩ := okF_fn fa k5
        obtain ⟨_, p2, p3, p4, _, _⟩ := okF_fn fb (h1 ▸ k5)
        refine Tr.tt (decide_eq_true k5) ?_
        rw [q2, p2, q3, p3, q4, p4, same_self]
        simpa using fn map0 AInv.nil k5 (h1 ▸ k5) h4 h5
      refine Tr.ff (decide_eq_false k5) ?_
      obtain ⟨e1, e2⟩ := ids0 k5 (h1 ▸ k5)
      have stop4 : Tr (fun m => m_impl_alike_n_j4 m a b true) false := Tr.step (fun m => by rw [m_impl_alike_n_j4, cond_true]) Tr.val
      by_cases h2 : a.name = b.name
      case neg => rw [decide_eq_false h2]; exact Tr.tt (decide_eq_true h2) stop4
      refine Tr.ff (decide_eq_false (fun h => h h2)) ?_
      by_cases h3 : a.n = b.n
      case neg => rw [decide_eq_false h3]; simp only [Bool.false_and, Bool.and_false]; exact Tr.tt (decide_eq_true h3) stop4
      refine Tr.ff (decide_eq_false (fun h => h h3)) (Tr.bind (implFormSame_tr _ _) ?_)
      rw [decide_eq_true h2, decide_eq_true h3]
      cases same a.data b.data with
      | false => exact stop4
      | true =>
      refine Tr.step (fun m => by rw [Bool.not_true, m_impl_alike_n_j4, cond_false]) ?_
      simp only [Bool.true_and]
      rw [e1, e2, List.append_nil]
      rw [e1, List.append_nil] at ka
      rw [e2, List.append_nil] at kb
      exact loop_alk h5 (L := fun m k => m_impl_alike_n_l5 m a b k) (E := fun m x y => m_impl_alike_n m x y) (fun m k => by rw [m_impl_alike_n_l5]) (fun x hx y hy => (ih x y [] [] (d - 1) (e - 1) (by have := Core.ws_mem hx; omega) (ka x hx) (kb y hy)).2 rfl rfl)
noncomputable def Core.like (a b : Core) : Bool := a.valid && (b.valid && a.alk b [] [])
theorem valid_isOk {c : Core} (h : c.valid = true) : c.isOk [] 120 = true := by unfold Core.valid at h; rw [Bool.and_eq_true] at h; exact h.1
theorem implCoreAlike_tr (a b : Core) (ha : a.fit) (hb : b.fit) (hwa : a.w ≤ 2 ^ 36) (hwb : b.w ≤ 2 ^ 36) : Tr (fun m => m_impl_CoreAlike m a b) (a.like b) := by
  refine Tr.eq (fun m => by unfold m_impl_CoreAlike; rfl) (Tr.bind (implCoreValid_tr a ha hwa) ?_)
  unfold Core.like
  cases h1 : a.valid with
  | false => exact Tr.ff rfl Tr.val
  | true =>
  refine Tr.tt rfl (Tr.bind (implCoreValid_tr b hb hwb) ?_)
  cases h2 : b.valid with
  | false => exact Tr.ff rfl Tr.val
  | true => exact Tr.tt rfl (Tr.bind ((implAlike_n _ a b [] [] 120 120 (Nat.le_refl _) (valid_isOk h1) (valid_isOk h2)).2 rfl rfl) Tr.val)
theorem specCoreAlike_tr (a b : Core) (ha : a.fit) (hb : b.fit) (hwa : a.w ≤ 2 ^ 36) (hwb : b.w ≤ 2 ^ 36) : Tr (fun m => m_spec_CoreAlike m a b) (a.like b) := by
  refine Tr.eq (fun m => by unfold m_spec_CoreAlike; rfl) (Tr.bind (specCoreValid_tr a ha hwa) ?_)
  unfold Core.like
  cases h1 : a.valid with
  | false => exact Tr.ff rfl Tr.val
  | true =>
  refine Tr.tt rfl (Tr.bind (specCoreValid_tr b hb hwb) ?_)
  cases h2 : b.valid with
  | false => exact Tr.ff rfl Tr.val
  | true => exact Tr.tt rfl (Tr.bind (specAlike_n _ a b [] [] (Nat.le_refl _) (by simpa using hwa) (by simpa using hwb)) Tr.val)
end Go.Abs
end
section
set_option linter.unusedVariables false
set_option linter.unusedSimpArgs false
set_option maxHeartbeats 4000000
namespace Go.Abs
def seqI (c : Int) (n : Nat) : List Int := (List.range n).map (fun i : Nat => c + 1 + (i : Int))
theorem seqI_len (c : Int) (n : Nat) : (seqI c n).length = n := by simp [seqI]
theorem seqI_zero (c : Int) : seqI c 0 = [] := rfl
theorem seqI_succ (c : Int) (n : Nat) : seqI c (n + 1) = seqI c n ++ [c + n + 1] := by
  unfold seqI; rw [List.range_succ, List.map_append, List.map_singleton, show c + 1 + (n : Int) = c + n + 1 by omega]
theorem seqI_app (c : Int) (j : Nat) : ∀ k : Nat, seqI c j ++ seqI (c + j) k = seqI c (j + k)
  | 0 => by rw [seqI_zero, List.append_nil]; rfl
  | k + 1 => by rw [seqI_succ, ← List.append_assoc, seqI_app c j k, show j + (k + 1) = (j + k) + 1 by omega, seqI_succ, show c + (j : Int) + (k : Int) + 1 = c + ((j + k : Nat) : Int) + 1 by omega]
theorem seqI_mem {c : Int} {n : Nat} {x : Int} (h : x ∈ seqI c n) : c < x ∧ x ≤ c + n := by
  unfold seqI at h
  obtain ⟨i, hi, rfl⟩ := List.mem_map.1 h
  have := List.mem_range.1 hi
  omega
theorem seqI_nodup (c : Int) : ∀ n : Nat, (seqI c n).Nodup
  | 0 => List.nodup_nil
  | n + 1 => by
    rw [seqI_succ]
    refine List.nodup_append.2 ⟨seqI_nodup c n, by simp, fun a ha b hb e => ?_⟩
    have := seqI_mem ha
    simp only [List.mem_singleton] at hb
    omega
def look (l ns : List Int) (x : Int) : Int := (ns[ns.length - 1 - (findI l x).toNat]?).getD 0
mutual
def Core.num : Core → List Int → List Int → Int → Core × Int
  | .mk k i nm n ids data kids, l, ns, c => (Core.mk k (bif decide (k = 1) then look l ns i else 0) nm n (seqI c ids.length) data (Core.nums kids (l ++ ids) (ns ++ seqI c ids.length) (c + ids.length)).1, (Core.nums kids (l ++ ids) (ns ++ seqI c ids.length) (c + ids.length)).2)
def Core.nums : List Core → List Int → List Int → Int → List Core × Int
  | [], _, _, c => ([], c)
  | x :: xs, l, ns, c => ((x.num l ns c).1 :: (Core.nums xs l ns (x.num l ns c).2).1, (Core.nums xs l ns (x.num l ns c).2).2)
end
theorem Core.num_eq (a : Core) (l ns : List Int) (c : Int) : a.num l ns c = (Core.mk a.kind (bif decide (a.kind = 1) then look l ns a.id else 0) a.name a.n (seqI c a.ids.length) a.data (Core.nums a.kids (l ++ a.ids) (ns ++ seqI c a.ids.length) (c + a.ids.length)).1, (Core.nums a.kids (l ++ a.ids) (ns ++ seqI c a.ids.length) (c + a.ids.length)).2) := by
  obtain ⟨a1, a2, a3, a4, a5, a6, a7⟩ := a; rw [Core.num]; rfl
mutual
theorem Core.num_bd : ∀ (a : Core) (l ns : List Int) (c : Int), c ≤ (a.num l ns c).2 ∧ (a.num l ns c).2 ≤ c + a.w ∧ (a.num l ns c).1.w = a.w
  | .mk k i nm n ids data kids, l, ns, c => by
    have := Core.nums_bd kids (l ++ ids) (ns ++ seqI c ids.length) (c + ids.length)
    rw [Core.num]
    simp only [Core.w, seqI_len]
    omega
theorem Core.nums_bd : ∀ (a : List Core) (l ns : List Int) (c : Int), c ≤ (Core.nums a l ns c).2 ∧ (Core.nums a l ns c).2 ≤ c + Core.ws a ∧ Core.ws (Core.nums a l ns c).1 = Core.ws a
  | [], l, ns, c => by rw [Core.nums]; simp [Core.ws]
  | x :: xs, l, ns, c => by
    have := Core.num_bd x l ns c
    have := Core.nums_bd xs l ns (x.num l ns c).2
    rw [Core.nums]
    simp only [Core.ws]
    omega
end
theorem Core.nums_len : ∀ (a : List Core) (l ns : List Int) (c : Int), (Core.nums a l ns c).1.length = a.length
  | [], l, ns, c => by rw [Core.nums]
  | x :: xs, l, ns, c => by rw [Core.nums, List.length_cons, List.length_cons, Core.nums_len xs]
mutual
theorem Core.num_fit : ∀ (a : Core) (l ns : List Int) (c : Int), a.fit → (a.num l ns c).1.fit
  | .mk k i nm n ids data kids, l, ns, c, h => by
    rw [Core.fit] at h
    rw [Core.num, Core.fit, seqI_len, Core.nums_len]
    exact ⟨h.1, h.2.1, h.2.2.1, h.2.2.2.1, Core.nums_fit kids _ _ _ h.2.2.2.2⟩
theorem Core.nums_fit : ∀ (a : List Core) (l ns : List Int) (c : Int), Core.fits a → Core.fits (Core.nums a l ns c).1
  | [], l, ns, c, _ => by rw [Core.nums]; trivial
  | x :: xs, l, ns, c, h => by
    rw [Core.fits] at h
    rw [Core.nums, Core.fits]
    exact ⟨Core.num_fit x _ _ _ h.1, Core.nums_fit xs _ _ _ h.2⟩
end
theorem loop_nums {xs : List Core} {l ns : List Int} {c0 B : Int} {F : List Core → Int → Core × Int} {L : Nat → Int → Int → List Core → Option (Core × Int)} {E : Nat → Core → Int → Option (Core × Int)} (hxs : Core.ws xs ≤ 2 ^ 36)
    (h0 : ∀ m k c acc, L (m + 1) k c acc = bif decide (k < (xs.length : Int)) then (idx xs k).bind fun v => (E m v c).bind fun q => chk (decide ((acc.length + [q.1].length) * 168 ≤ 140737488355328)) (L m (k + 1) q.2 (acc ++ [q.1])) else some (F acc c))
    (hE : ∀ x ∈ xs, ∀ c, c0 ≤ c → c + x.w ≤ B → Tr (fun m => E m x c) (x.num l ns c)) (hB : c0 + Core.ws xs ≤ B) : Tr (fun m => L m 0 c0 []) (F (Core.nums xs l ns c0).1 (Core.nums xs l ns c0).2) := by
  have hl := Core.ws_len xs
  have key := drop_ind xs (fun k zs => ∀ c acc, c0 ≤ c → c + Core.ws zs ≤ B → acc.length = k → Tr (fun m => L m (k : Int) c acc) (F (acc ++ (Core.nums zs l ns c).1) (Core.nums zs l ns c).2)) ?_ ?_ 0 (Nat.zero_le _) c0 [] (Int.le_refl _) (by simpa using hB) rfl
  · simpa using key
  · intro c acc _ _ _
    refine Tr.step (fun m => by rw [h0, ltN_self, cond_false]) ?_
    rw [Core.nums, List.append_nil]; exact Tr.val
  · intro k x zs hk hx hd ih c acc hc hb hacc
    rw [Core.ws] at hb
    have hbd := x.num_bd l ns c
    refine Tr.step (fun m => by rw [h0, ltN hk, cond_true, idx_nat hx, Option.bind_some, succN]) ?_
    refine Tr.bind (hE x (List.mem_of_getElem? hx) c hc (by omega)) (Tr.chk (decide_eq_true (by simp only [List.length_singleton]; omega)) ?_)
    have := ih (x.num l ns c).2 (acc ++ [(x.num l ns c).1]) (by omega) (by omega) (by simp [hacc])
    rw [Core.nums]
    rwa [List.append_assoc] at this
theorem findI_none {l : List Int} {x : Int} (h : x ∈ l) : ∃ i : Nat, findI l x = i ∧ i < l.length := by
  cases hf : l.reverse.findIdx? (fun y => decide (y = x)) with
  | none =>
    have := List.findIdx?_eq_none_iff.1 hf x (List.mem_reverse.2 h)
    simp at this
  | some i =>
    refine ⟨i, findI_at hf, ?_⟩
    have := (List.findIdx?_eq_some_iff_getElem.1 hf).1
    simpa using this
theorem specNumber_n : ∀ (n : Nat) (a : Core) (l ns : List Int) (c : Int) (d : Nat), a.w ≤ n → a.isOk l d = true → l.length = ns.length → 0 ≤ c → c + a.w ≤ 2 ^ 40 → l.length + a.w ≤ 2 ^ 36 → Tr (fun m => m_spec_l6Number m a l ns c) (a.num l ns c) := by
  intro n
  induction n with
  | zero => intro a l ns c d h; have := a.w_pos; omega
  | succ n ih =>
    intro a l ns c d h ha hln hc hcb hlb
    have hw := a.w_kids
    obtain ⟨fa, ka⟩ := isOk_parts ha
    rw [Core.num_eq]
    have rest : ∀ g : Int, Tr (fun m => m_spec_l6Number_j1 m a l ns c a.data g) (Core.mk a.kind g a.name a.n (seqI c a.ids.length) a.data (Core.nums a.kids (l ++ a.ids) (ns ++ seqI c a.ids.length) (c + a.ids.length)).1, (Core.nums a.kids (l ++ a.ids) (ns ++ seqI c a.ids.length) (c + a.ids.length)).2) := by
      intro g
      refine Tr.step (fun m => by rw [m_spec_l6Number_j1]) ?_
      have key := drop_ind a.ids (fun k zs => Tr (fun m => m_spec_l6Number_l3 m a a.data g (l ++ a.ids.take k) (ns ++ seqI c k) (c + k) (k : Int) (seqI c k)) (Core.mk a.kind g a.name a.n (seqI c a.ids.length) a.data (Core.nums a.kids (l ++ a.ids) (ns ++ seqI c a.ids.length) (c + a.ids.length)).1, (Core.nums a.kids (l ++ a.ids) (ns ++ seqI c a.ids.length) (c + a.ids.length)).2)) ?_ ?_ 0 (Nat.zero_le _)
      · simpa [seqI_zero] using key
      · rw [List.take_length]
        refine Tr.step (fun m => by rw [m_spec_l6Number_l3, ltN_self, cond_false]) (Tr.step (fun m => by rw [m_spec_l6Number_j2]) ?_)
        exact loop_nums (xs := a.kids) (l := l ++ a.ids) (ns := ns ++ seqI c a.ids.length) (c0 := c + a.ids.length) (B := 2 ^ 40) (F := fun z q => (Core.mk a.kind g a.name a.n (seqI c a.ids.length) a.data z, q)) (L := fun m k q acc => m_spec_l6Number_l4 m a a.data g (l ++ a.ids) (ns ++ seqI c a.ids.length) (seqI c a.ids.length) q k acc) (E := fun m x q => m_spec_l6Number m x (l ++ a.ids) (ns ++ seqI c a.ids.length) q) (by omega) (fun m k q acc => by rw [m_spec_l6Number_l4])
          (fun x hx q hq hqb => ih x _ _ q (d - 1) (by have := Core.ws_mem hx; omega) (ka x hx) (by simp [hln, seqI_len]) (by omega) hqb (by have := Core.ws_mem hx; simp; omega)) (by omega)
      · intro k x zs hk hx hd ihk
        have hs := seqI_len c k
        have ht : (a.ids.take k).length ≤ a.ids.length := by simp; omega
        refine Tr.step (fun m => by rw [m_spec_l6Number_l3, ltN hk, cond_true]) ?_
        rw [w64_in (by omega)]
        refine Tr.chk (decide_eq_true (by simp only [List.length_singleton]; omega)) (Tr.chk (decide_eq_true (by simp only [List.length_nil, List.length_append]; omega)) (Tr.idx (idx_nat hx) (Tr.chk (decide_eq_true (by simp only [List.length_nil, List.length_append, List.length_singleton]; omega)) (Tr.chk (decide_eq_true (by simp only [List.length_nil, List.length_append]; omega)) (Tr.chk (decide_eq_true (by simp only [List.length_nil, List.length_append, List.length_singleton]; omega)) ?_)))))
        rw [List.take_add_one, hx, seqI_succ] at ihk
        refine Tr.eq (fun m => ?_) ihk
        rw [List.nil_append, List.nil_append, List.append_assoc, List.append_assoc, succN, show c + (k : Int) + 1 = c + ((k + 1 : Nat) : Int) by omega]
        rfl
    refine Tr.step (fun m => by rw [m_spec_l6Number]) (Tr.bind (l1Copy_tr _ a.data (Nat.le_refl _) (by omega)) ?_)
    by_cases k1 : a.kind = 1
    · obtain ⟨q1, _⟩ := okF_var fa k1
      obtain ⟨i, hi, hil⟩ := findI_none q1
      refine Tr.tt (decide_eq_true k1) (Tr.bind (l6Last_tr l _ (by omega)) ?_)
      rw [decide_eq_true k1, cond_true, hi]
      have hg : ns[ns.length - 1 - i]? = some (ns[ns.length - 1 - i]'(by omega)) := List.getElem?_eq_getElem _
      have e : w64 (w64 ((ns.length : Int) - 1) - (i : Int)) = ((ns.length - 1 - i : Nat) : Int) := by rw [w64_in (n := (ns.length : Int) - 1) (by omega), w64_in (by omega)]; omega
      refine Tr.idx (by rw [e]; exact idx_nat hg) ?_
      have : look l ns a.id = ns[ns.length - 1 - i]'(by omega) := by unfold look; rw [hi, Int.toNat_natCast, hg]; rfl
      rw [this]; exact rest _
    · rw [decide_eq_false k1, cond_false]
      exact Tr.ff rfl (rest 0)
theorem AInv.look {m : Int → Option Int} {l r : List Int} (h : AInv m l r) {x : Int} (hx : x ∈ l) : mapGet m x = look l r x := by
  obtain ⟨i, y, h1, h2, h3⟩ := h.get hx
  have h4 := (List.getElem?_eq_some_iff.1 h1).1
  have h5 := h.len
  unfold Abs.look
  rw [h3, findI_nodup h.nl h1, Int.toNat_natCast, show r.length - 1 - (l.length - 1 - i) = i by omega, h2]; rfl
theorem nodup_seq {ns : List Int} {c : Int} (h : ns.Nodup) (hb : ∀ y ∈ ns, y ≤ c) (k : Nat) : (ns ++ seqI c k).Nodup :=
  List.nodup_append.2 ⟨h, seqI_nodup c k, fun a ha b hb' e => by have := hb a ha; have := seqI_mem hb'; omega⟩
theorem bound_seq {ns : List Int} {c : Int} (hb : ∀ y ∈ ns, y ≤ c) (k : Nat) : ∀ y ∈ ns ++ seqI c k, y ≤ c + k := by
  intro y hy
  rcases List.mem_append.1 hy with h | h
  · have := hb y h; omega
  · have := seqI_mem h; omega
theorem implNumber_n : ∀ (n : Nat) (a : Core) (l ns : List Int) (c : Int) (d : Nat), a.w ≤ n → a.isOk l d = true → 0 ≤ c → c + a.w ≤ 2 ^ 40 → a.w ≤ 2 ^ 36 → (∀ y ∈ ns, y ≤ c) →
    (∀ mp, AInv mp l ns → Tr (fun m => m_impl_renumber m a mp c) (a.num l ns c)) ∧ (l = [] → ns = [] → Tr (fun m => m_impl_renumber_n m a c) (a.num l ns c)) := by
  intro n
  induction n with
  | zero => intro a l ns c d h; have := a.w_pos; omega
  | succ n ih =>
    intro a l ns c d h ha hc hcb hlb hbd
    have hw := a.w_kids
    obtain ⟨fa, ka⟩ := isOk_parts ha
    rw [Core.num_eq]
    have ok5 : ∀ l2 : List Int, a.okF l = true → l.Nodup → (l ++ a.ids).Nodup := by
      intro _ _ hn
      by_cases k5 : a.kind = 5
      · exact idsOk_nodup _ _ hn (okF_fn fa k5).1
      · rw [okF_ids fa k5, List.append_nil]; exact hn
    have rest : ∀ (g : Int) (mp : Int → Option Int), AInv mp l ns → Tr (fun m => m_impl_renumber_l3 m a a.data g 0 c [] mp) (Core.mk a.kind g a.name a.n (seqI c a.ids.length) a.data (Core.nums a.kids (l ++ a.ids) (ns ++ seqI c a.ids.length) (c + a.ids.length)).1, (Core.nums a.kids (l ++ a.ids) (ns ++ seqI c a.ids.length) (c + a.ids.length)).2) := by
      intro g mp hI
      have hN := ok5 [] fa hI.nl
      have key := drop_ind a.ids (fun k zs => ∀ mq, AInv mq (l ++ a.ids.take k) (ns ++ seqI c k) → Tr (fun m => m_impl_renumber_l3 m a a.data g (k : Int) (c + k) (seqI c k) mq) (Core.mk a.kind g a.name a.n (seqI c a.ids.length) a.data (Core.nums a.kids (l ++ a.ids) (ns ++ seqI c a.ids.length) (c + a.ids.length)).1, (Core.nums a.kids (l ++ a.ids) (ns ++ seqI c a.ids.length) (c + a.ids.length)).2)) ?_ ?_ 0 (Nat.zero_le _) mp (by simpa [seqI_zero] using hI)
      · simpa [seqI_zero] using key
      · intro mq hq
        rw [List.take_length] at hq
        refine Tr.step (fun m => by rw [m_impl_renumber_l3, ltN_self, cond_false]) (Tr.step (fun m => by rw [m_impl_renumber_j2]) ?_)
        exact loop_nums (xs := a.kids) (l := l ++ a.ids) (ns := ns ++ seqI c a.ids.length) (c0 := c + a.ids.length) (B := 2 ^ 40) (F := fun z q => (Core.mk a.kind g a.name a.n (seqI c a.ids.length) a.data z, q)) (L := fun m k q acc => m_impl_renumber_l4 m a a.data g mq (seqI c a.ids.length) k q acc) (E := fun m x q => m_impl_renumber m x mq q) (by omega) (fun m k q acc => by rw [m_impl_renumber_l4])
          (fun x hx q hq' hqb => (ih x _ _ q (d - 1) (by have := Core.ws_mem hx; omega) (ka x hx) (by omega) hqb (by have := Core.ws_mem hx; omega) (fun y hy => by have := bound_seq hbd a.ids.length y hy; omega)).1 mq hq) (by omega)
      · intro k x zs hk hx hd ihk mq hq
        have hs := seqI_len c k
        refine Tr.step (fun m => by rw [m_impl_renumber_l3, ltN hk, cond_true]) (Tr.idx (idx_nat hx) ?_)
        rw [w64_in (by omega)]
        refine Tr.chk (decide_eq_true (by simp only [List.length_singleton]; omega)) ?_
        have t1 : l ++ a.ids.take (k + 1) = (l ++ a.ids.take k) ++ [x] := by rw [List.take_add_one, hx, List.append_assoc]; rfl
        have t2 : ns ++ seqI c (k + 1) = (ns ++ seqI c k) ++ [c + k + 1] := by rw [seqI_succ, List.append_assoc]
        have := ihk (mapSet mq x (c + k + 1)) (by
          rw [t1, t2]
          refine hq.add ?_ ?_
          · rw [← t1]; exact hN.sublist (List.Sublist.append_left (List.take_sublist _ _) _)
          · rw [← t2]; exact nodup_seq hI.nr hbd _)
        rw [seqI_succ] at this
        refine Tr.eq (fun m => ?_) this
        rw [succN, show c + (k : Int) + 1 = c + ((k + 1 : Nat) : Int) by omega]
    constructor
    · intro mp hI
      refine Tr.step (fun m => by rw [m_impl_renumber]) (Tr.bind (copyForm_tr a.data (by omega)) ?_)
      by_cases k1 : a.kind = 1
      · refine Tr.tt (decide_eq_true k1) (Tr.step (fun m => by rw [m_impl_renumber_j1]) ?_)
        rw [decide_eq_true k1, cond_true, hI.look (okF_var fa k1).1]
        exact rest _ mp hI
      · refine Tr.ff (decide_eq_false k1) (Tr.step (fun m => by rw [m_impl_renumber_j1]) ?_)
        rw [decide_eq_false k1, cond_false, okF_id0 fa k1]
        exact rest _ mp hI
    · rintro rfl rfl
      refine Tr.eq (fun m => by unfold m_impl_renumber_n; rfl) (Tr.bind (copyForm_tr a.data (by omega)) ?_)
      by_cases k1 : a.kind = 1
      · exact absurd (okF_var fa k1).1 (by simp)
      · refine Tr.ff (decide_eq_false k1) (Tr.step (fun m => by rw [m_impl_renumber_n_j1]) ?_)
        rw [decide_eq_false k1, cond_false, okF_id0 fa k1]
        exact rest _ map0 AInv.nil
abbrev core0 : Core := Core.mk 0 0 (⟨#[]⟩ : ByteArray) 0 ([] : List Int) (Form.mk 0 (⟨#[]⟩ : ByteArray) 0 ([] : List Int) ([] : List Form)) ([] : List Core)
noncomputable def Core.numbered (a : Core) : Core × Bool := bif a.valid then (bif decide (999 < (a.num [] [] 0).2) then (core0, false) else ((a.num [] [] 0).1, true)) else (core0, false)
theorem specNumberCore_tr (a : Core) (ha : a.fit) (hw : a.w ≤ 2 ^ 36) : Tr (fun m => m_spec_NumberCore m a) a.numbered := by
  refine Tr.eq (fun m => by unfold m_spec_NumberCore; rfl) (Tr.bind (specCoreValid_tr a ha hw) ?_)
  unfold Core.numbered
  cases hv : a.valid with
  | false => exact Tr.tt rfl Tr.val
  | true =>
  refine Tr.ff rfl (Tr.bind (specNumber_n _ a [] [] 0 120 (Nat.le_refl _) (valid_isOk hv) rfl (by omega) (by omega) (by simpa using hw)) ?_)
  cases decide (999 < (a.num [] [] 0).2) with
  | true => exact Tr.tt rfl Tr.val
  | false => exact Tr.ff rfl Tr.val
theorem implNumberCore_tr (a : Core) (ha : a.fit) (hw : a.w ≤ 2 ^ 36) : Tr (fun m => m_impl_NumberCore m a) a.numbered := by
  refine Tr.eq (fun m => by unfold m_impl_NumberCore; rfl) (Tr.bind (implCoreValid_tr a ha hw) ?_)
  unfold Core.numbered
  cases hv : a.valid with
  | false => exact Tr.tt rfl Tr.val
  | true =>
  refine Tr.ff rfl (Tr.bind ((implNumber_n _ a [] [] 0 120 (Nat.le_refl _) (valid_isOk hv) (by omega) (by omega) hw (by simp)).2 rfl rfl) ?_)
  cases decide (999 < (a.num [] [] 0).2) with
  | true => exact Tr.tt rfl Tr.val
  | false => exact Tr.ff rfl Tr.val
theorem Core.numbered_bd (a : Core) (ha : a.fit) : a.numbered.1.w ≤ a.w + 2 ∧ a.numbered.1.fit := by
  unfold Core.numbered
  have h0 : core0.w ≤ a.w + 2 ∧ core0.fit := ⟨by have := a.w_pos; simp [core0, Core.w, Core.ws, Form.w, Form.ws]; try omega, core_fit (by decide) (by simp) (leaf_fit (by decide)) (by simp) trivial⟩
  cases a.valid with
  | false => exact h0
  | true =>
    cases decide (999 < (a.num [] [] 0).2) with
    | true => exact h0
    | false => exact ⟨by show (a.num [] [] 0).1.w ≤ _; rw [(a.num_bd [] [] 0).2.2]; omega, a.num_fit [] [] 0 ha⟩
theorem l6Two_tq (code : List Int) (h : ∀ x ∈ code, 0 ≤ x ∧ x < 256) : TQ (fun m => m_spec_l6Two m code) (fun r => (r.1.w ≤ 2 ^ 22 ∧ r.1.fit) ∧ r.2.w ≤ 2 ^ 22 ∧ r.2.fit) := by
  refine TQ.eq (fun m => by unfold m_spec_l6Two; rfl) (TQ.bind (l6Draw_tq code h) (fun a ha => ?_))
  obtain ⟨hw, hf⟩ := ha
  refine TQ.bind (open_tq code h) (fun o ho => TQ.ev (specNumberCore_tr a hf (by omega)) ?_)
  obtain ⟨n1, n2⟩ := a.numbered_bd hf
  have tail : ∀ (g : Bool) (b : List Int) (p : Int), OkRd ⟨b, p⟩ 1000 → TQ (fun m => m_spec_l6Two_j1 m a a.numbered g b p) (fun r => (r.1.w ≤ 2 ^ 22 ∧ r.1.fit) ∧ r.2.w ≤ 2 ^ 22 ∧ r.2.fit) := by
    intro g b p hb
    refine TQ.step (fun m => by rw [m_spec_l6Two_j1]) (TQ.cond (fun _ => TQ.val ⟨⟨by show a.w ≤ _; omega, hf⟩, by show a.numbered.1.w ≤ _; omega, n2⟩) (fun _ => ?_))
    refine TQ.bind (l6Mutate_tq _ a ⟨b, p⟩ _ (Nat.le_refl _) hb (by omega) (by omega) (by omega)) (fun y hy => ?_)
    refine TQ.bind (l6Mutate_tq _ y.1 y.2 _ (Nat.le_refl _) hy.1 (by omega) (by omega) (by omega)) (fun z hz => ?_)
    exact TQ.val ⟨⟨by show a.w ≤ _; omega, hf⟩, by show z.1.w ≤ _; omega, hz.2.2 (hy.2.2 hf)⟩
  refine TQ.cond (fun _ => ?_) (fun _ => ?_)
  · refine TQ.bind (pick_tq o 3 _ ho (by omega)) (fun v hv => ?_)
    exact tail _ _ _ (hv.1.mk'.mono (by omega))
  · exact tail _ _ _ (ho.mk'.mono (by omega))
theorem DrawCoreAlike_tq (code : List Int) (h : ∀ x ∈ code, 0 ≤ x ∧ x < 256) : TQ (fun m => m_spec_DrawCoreAlike m code) (fun r => (r.1.w ≤ 2 ^ 22 ∧ r.1.fit) ∧ r.2.w ≤ 2 ^ 22 ∧ r.2.fit) :=
  TQ.eq (fun m => by unfold m_spec_DrawCoreAlike; rfl) (TQ.bind (l6Two_tq code h) (fun v hv => TQ.val hv))
end Go.Abs
end
section
set_option linter.unusedVariables false
set_option linter.unusedSimpArgs false
set_option maxHeartbeats 4000000
namespace Go.Abs
mutual
def Core.allI : Core → List Int
  | .mk _ _ _ _ ids _ kids => ids ++ Core.allIs kids
def Core.allIs : List Core → List Int
  | [] => []
  | x :: xs => x.allI ++ Core.allIs xs
end
mutual
theorem Core.num_all : ∀ (a : Core) (l ns : List Int) (c : Int), ∃ k : Nat, (a.num l ns c).2 = c + k ∧ (a.num l ns c).1.allI = seqI c k
  | .mk k i nm n ids data kids, l, ns, c => by
    obtain ⟨j, h1, h2⟩ := Core.nums_all kids (l ++ ids) (ns ++ seqI c ids.length) (c + ids.length)
    refine ⟨ids.length + j, ?_, ?_⟩
    · rw [Core.num]; simp only []; rw [h1]; omega
    · rw [Core.num, Core.allI, h2, seqI_app]
theorem Core.nums_all : ∀ (a : List Core) (l ns : List Int) (c : Int), ∃ k : Nat, (Core.nums a l ns c).2 = c + k ∧ Core.allIs (Core.nums a l ns c).1 = seqI c k
  | [], l, ns, c => ⟨0, by rw [Core.nums]; simp, by rw [Core.nums]; rfl⟩
  | x :: xs, l, ns, c => by
    obtain ⟨i, h1, h2⟩ := Core.num_all x l ns c
    obtain ⟨j, h3, h4⟩ := Core.nums_all xs l ns (x.num l ns c).2
    refine ⟨i + j, ?_, ?_⟩
    · rw [Core.nums]; simp only []; rw [h3, h1]; omega
    · rw [Core.nums, Core.allIs, h2, h4, h1, seqI_app]
end
end Go.Abs
end
section
set_option linter.unusedVariables false
set_option linter.unusedSimpArgs false
set_option maxHeartbeats 4000000
namespace Go.Abs
theorem alks_cons {x y : Core} {xs ys : List Core} {l r : List Int} : Core.alks (x :: xs) (y :: ys) l r = (x.alk y l r && Core.alks xs ys l r) := by rw [Core.alks]
theorem seqI_inj {c : Int} {m n : Nat} : seqI c m = seqI c n ↔ m = n := ⟨fun h => by have := congrArg List.length h; rwa [seqI_len, seqI_len] at this, fun h => by rw [h]⟩
theorem num_snd {a b : Core} {l r ns ms : List Int} {c : Int} (h : (a.num l ns c).1 = (b.num r ms c).1) : (a.num l ns c).2 = (b.num r ms c).2 := by
  obtain ⟨i, h1, h2⟩ := a.num_all l ns c
  obtain ⟨j, h3, h4⟩ := b.num_all r ms c
  rw [h, h4] at h2
  rw [h1, h3, seqI_inj.1 h2]
theorem nums_iff {l r ns : List Int} {c0 : Int} : ∀ (xs ys : List Core) (c : Int), c0 ≤ c → xs.length = ys.length → (∀ x ∈ xs, ∀ y ∈ ys, ∀ c, c0 ≤ c → (x.alk y l r = true ↔ (x.num l ns c).1 = (y.num r ns c).1)) →
    (Core.alks xs ys l r = true ↔ (Core.nums xs l ns c).1 = (Core.nums ys r ns c).1)
  | [], [], c, _, _, _ => by rw [alks_nil, Core.nums, Core.nums]; simp
  | [], y :: ys, c, _, h, _ => by simp at h
  | x :: xs, [], c, _, h, _ => by simp at h
  | x :: xs, y :: ys, c, hc, h, ih => by
    have hb := x.num_bd l ns c
    have rc := nums_iff xs ys (x.num l ns c).2 (by omega) (by simpa using h) (fun x hx y hy => ih x (by simp [hx]) y (by simp [hy]))
    rw [alks_cons, Bool.and_eq_true, Core.nums, Core.nums, ih x (by simp) y (by simp) c hc]
    simp only [List.cons.injEq]
    constructor
    · rintro ⟨h1, h2⟩
      refine ⟨h1, ?_⟩
      rw [← num_snd h1]; exact rc.1 h2
    · rintro ⟨h1, h2⟩
      refine ⟨h1, rc.2 ?_⟩
      rw [← num_snd h1] at h2; exact h2
theorem look_at {l ns : List Int} {x : Int} {i : Nat} (hf : findI l x = i) (h : i < ns.length) : ns[ns.length - 1 - i]? = some (look l ns x) := by
  unfold look
  rw [hf, Int.toNat_natCast, List.getElem?_eq_getElem (by omega)]; rfl
theorem nodup_at {q : List Int} (hn : q.Nodup) {i j : Nat} {x : Int} (h1 : q[i]? = some x) (h2 : q[j]? = some x) : i = j := by
  have := find_at q i x hn h1
  rw [find_at q j x hn h2] at this
  exact (Option.some.inj this).symm
theorem okF_nodup {a : Core} {l : List Int} (fa : a.okF l = true) (hn : l.Nodup) : (l ++ a.ids).Nodup := by
  by_cases k5 : a.kind = 5
  · exact idsOk_nodup _ _ hn (okF_fn fa k5).1
  · rw [okF_ids fa k5, List.append_nil]; exact hn
theorem alk_num : ∀ (n : Nat) (a b : Core) (l r ns : List Int) (c : Int) (d e : Nat), a.w ≤ n → a.isOk l d = true → b.isOk r e = true → l.length = ns.length → r.length = ns.length → l.Nodup → r.Nodup → ns.Nodup → (∀ y ∈ ns, y ≤ c) →
    (a.alk b l r = true ↔ (a.num l ns c).1 = (b.num r ns c).1) := by
  intro n
  induction n with
  | zero => intro a b l r ns c d e h; have := a.w_pos; omega
  | succ n ih =>
    intro a b l r ns c d e h ha hb hl hr nl nr nn hbd
    have hw := a.w_kids
    obtain ⟨fa, ka⟩ := isOk_parts ha
    obtain ⟨fb, kb⟩ := isOk_parts hb
    have kids : a.ids.length = b.ids.length → a.kids.length = b.kids.length → (Core.alks a.kids b.kids (l ++ a.ids) (r ++ b.ids) = true ↔ (Core.nums a.kids (l ++ a.ids) (ns ++ seqI c a.ids.length) (c + a.ids.length)).1 = (Core.nums b.kids (r ++ b.ids) (ns ++ seqI c a.ids.length) (c + a.ids.length)).1) := by
      intro h4 h6
      refine nums_iff (c0 := c + a.ids.length) a.kids b.kids _ (Int.le_refl _) h6 (fun x hx y hy q hq => ?_)
      refine ih x y _ _ _ q (d - 1) (e - 1) (by have := Core.ws_mem hx; omega) (ka x hx) (kb y hy) (by simp [hl, seqI_len]) (by simp [hr, seqI_len, h4]) (okF_nodup fa nl) (okF_nodup fb nr) (nodup_seq nn hbd _) (fun y hy => ?_)
      have := bound_seq hbd a.ids.length y hy
      omega
    rw [Core.alk_eq, Core.num_eq a, Core.num_eq b]
    simp only [Core.mk.injEq, Bool.and_eq_true, decide_eq_true_eq, same_iff, seqI_inj]
    constructor
    · rintro ⟨h1, h2, h3, h4, h5, h6, h7, h8⟩
      refine ⟨h1, ?_, h2, h3, h4, h5, ?_⟩
      · by_cases k1 : a.kind = 1
        · rw [decide_eq_true k1, cond_true, decide_eq_true_iff] at h7
          rw [decide_eq_true k1, decide_eq_true (show b.kind = 1 by omega), cond_true, cond_true]
          unfold look; rw [h7]
        · rw [decide_eq_false k1, decide_eq_false (show ¬ b.kind = 1 by omega)]; rfl
      · rw [← h4]; exact (kids h4 h6).1 h8
    · rintro ⟨h1, h7, h2, h3, h4, h5, h8⟩
      have h6 : a.kids.length = b.kids.length := by
        have := congrArg List.length h8
        rwa [Core.nums_len, Core.nums_len] at this
      rw [← h4] at h8
      refine ⟨h1, h2, h3, h4, h5, h6, ?_, (kids h4 h6).2 h8⟩
      by_cases k1 : a.kind = 1
      · have k1' : b.kind = 1 := by omega
        rw [decide_eq_true k1, decide_eq_true k1', cond_true, cond_true] at h7
        rw [decide_eq_true k1, cond_true, decide_eq_true_iff]
        obtain ⟨i, hi, hil⟩ := findI_none (okF_var fa k1).1
        obtain ⟨j, hj, hjl⟩ := findI_none (okF_var fb k1').1
        have e1 := look_at (ns := ns) hi (by omega)
        have e2 := look_at (ns := ns) hj (by omega)
        rw [h7] at e1
        have := nodup_at nn e1 e2
        omega
      · rw [decide_eq_false k1, cond_false]
end Go.Abs
end
section
set_option linter.unusedVariables false
set_option linter.unusedSimpArgs false
set_option maxHeartbeats 4000000
namespace Go.Abs
mutual
def Core.dep : Core → Nat
  | .mk _ _ _ _ _ _ kids => Core.deps kids + 1
def Core.deps : List Core → Nat
  | [] => 0
  | x :: xs => max x.dep (Core.deps xs)
end
theorem coreSize_n : ∀ (n : Nat) (f : Core), f.w ≤ n → f.w ≤ 2 ^ 36 → Tr (fun m => m_impl_CoreSize m f) (f.cnt : Int) := by
  intro n
  induction n with
  | zero => intro a h; have := a.w_pos; omega
  | succ n ih =>
    intro f h hb
    have hw := f.w_kids
    have hc := Core.cnts_ws f.kids
    refine Tr.step (fun m => by rw [m_impl_CoreSize]) ?_
    have key := drop_ind f.kids (fun k zs => ∀ g : Nat, g + Core.ws zs ≤ 2 ^ 37 → Tr (fun m => m_impl_CoreSize_l1 m f (g : Int) (k : Int)) ((g + Core.cnts zs : Nat) : Int)) ?_ ?_ 0 (Nat.zero_le _) 1 (by simp; omega)
    · rw [Core.cnt_eq]; simpa using key
    · intro g hg
      exact Tr.step (fun m => by rw [m_impl_CoreSize_l1, ltN_self, cond_false]; simp [Core.cnts]) Tr.val
    · intro k x zs hk hx hd ihk g hg
      have hm := List.mem_of_getElem? hx
      have hxw := Core.ws_mem hm
      have hcx := Core.cnt_w x
      rw [Core.ws] at hg
      refine Tr.step (fun m => by rw [m_impl_CoreSize_l1, ltN hk, cond_true, idx_nat hx, Option.bind_some, succN]) ?_
      refine Tr.bind (ih x (by omega) (by omega)) ?_
      refine Tr.eq (fun m => by rw [w64_in (by omega), show (g : Int) + (x.cnt : Int) = ((g + x.cnt : Nat) : Int) by omega]) ?_
      rw [Core.cnts, ← Nat.add_assoc]
      exact ihk _ (by omega)
end Go.Abs
end
section
set_option linter.unusedVariables false
set_option linter.unusedSimpArgs false
set_option maxHeartbeats 2000000
namespace Go.Abs
open Go.Lib (itoa join joinTail decDigits nDigits)
def mkB (l : List UInt8) : ByteArray := ⟨l.toArray⟩
theorem mkB_list (l : List UInt8) : (mkB l).data.toList = l := by unfold mkB; simp
theorem mkB_size (l : List UInt8) : (mkB l).size = l.length := by rw [sz_list, mkB_list]
theorem mkB_of (s : ByteArray) : mkB s.data.toList = s := by unfold mkB; simp
theorem bcat_mk {a b : List UInt8} (h : a.length + b.length ≤ 2 ^ 60) : bcat (mkB a) (mkB b) = some (mkB (a ++ b)) := by
  unfold bcat
  rw [mkB_size, mkB_size, decide_eq_true (by omega), cond_true]
  refine congrArg some (ByteArray.ext ?_)
  rw [ByteArray.data_append]
  unfold mkB
  simp
theorem Tr.cat {γ : Type} {x y : ByteArray} {a b : List UInt8} {g : ByteArray → Nat → Option γ} {w : γ} (hx : x = mkB a) (hy : y = mkB b) (hl : a.length + b.length ≤ 2 ^ 60) (h : Tr (fun m => g (mkB (a ++ b)) m) w) : Tr (fun m => (bcat x y).bind fun v => g v m) w := by
  subst hx; subst hy
  exact Tr.eq (fun m => by rw [bcat_mk hl, Option.bind_some]) h
theorem nDig_le {n k : Nat} (h : n < 10 ^ (k + 1)) : nDigits n ≤ k + 1 := by
  induction k generalizing n with
  | zero => rw [Lib.nDigits_small (by simpa using h)]; omega
  | succ k ih =>
    by_cases h1 : n < 10
    · rw [Lib.nDigits_small h1]; omega
    · rw [Lib.nDigits_big h1]
      have := @ih (n / 10) (by rw [Nat.pow_succ] at h; omega)
      omega
theorem itoa_nat (n : Nat) : itoa (n : Int) = decDigits n := by unfold Lib.itoa; rw [if_neg (by omega), Int.toNat_natCast]
theorem itoa_len {n : Int} (h0 : 0 ≤ n) (h : n ≤ 999) : (itoa n).length ≤ 3 := by
  obtain ⟨k, rfl⟩ := Int.eq_ofNat_of_zero_le h0
  rw [itoa_nat, Lib.decDigits_length]
  exact nDig_le (k := 2) (by omega)
theorem itoa_tr {n : Int} (h0 : 0 ≤ n) (h : n ≤ 999) : Tr (fun m => m_strconv_Itoa m n) (mkB (itoa n)) :=
  Tr.eq (fun m => by unfold m_strconv_Itoa; rfl) (Tr.chk (decide_eq_true (by omega)) (Tr.chk (decide_eq_true (by omega)) Tr.val))
theorem join_len : ∀ (xs : List (List UInt8)) (sep : List UInt8), (join xs sep).length ≤ Lib.lens xs + xs.length * sep.length
  | [], sep => by simp [Lib.join_nil]
  | x :: r, sep => by
    rw [Lib.join_cons, List.length_append]
    have : ∀ r : List (List UInt8), (joinTail sep r).length = Lib.lens r + r.length * sep.length := by
      intro r
      induction r with
      | nil => simp [joinTail, Lib.lens]
      | cons y r ih =>
        have e : joinTail sep (y :: r) = sep ++ y ++ joinTail sep r := by simp [joinTail]
        rw [e, List.length_append, List.length_append, ih]
        simp only [Lib.lens, List.map_cons, List.sum_cons, List.length_cons]
        rw [Nat.succ_mul]; omega
    rw [this]
    simp only [Lib.lens, List.map_cons, List.sum_cons, List.length_cons]
    rw [Nat.succ_mul]; omega
theorem lens_cons (x : List UInt8) (r : List (List UInt8)) : Lib.lens (x :: r) = x.length + Lib.lens r := by simp [Lib.lens]
theorem join_tr {xs : List (List UInt8)} {sep : List UInt8} (h1 : xs.length ≤ 2 ^ 40) (h2 : Lib.lens xs + xs.length * sep.length ≤ 2 ^ 40) : Tr (fun m => m_strings_Join m (xs.map mkB) (mkB sep)) (mkB (join xs sep)) := by
  have e : ((xs.map mkB).map fun s => s.data.toList) = xs := by
    rw [List.map_map]
    conv => rhs; rw [← List.map_id xs]
    exact List.map_congr_left (fun x _ => mkB_list x)
  have := join_len xs sep
  refine Tr.eq (fun m => by unfold m_strings_Join; rw [e, mkB_list]) ?_
  exact Tr.chk (decide_eq_true (by rw [List.length_map]; omega)) (Tr.chk (decide_eq_true (by omega)) Tr.val)
def scTx (sc : List Int) : List UInt8 := bif decide (sc.length = 0) then [] else [123] ++ join (sc.map itoa) [44] ++ [125]
mutual
def Form.tx : Form → List UInt8
  | .mk k nm n sc kids => bif decide (k = 1) then nm.data.toList ++ scTx sc else bif decide (k = 2) then itoa n else [40] ++ join (Form.txs kids) [32] ++ [41]
def Form.txs : List Form → List (List UInt8)
  | [] => []
  | f :: fs => f.tx :: Form.txs fs
end
theorem Form.txs_eq : ∀ l : List Form, Form.txs l = l.map Form.tx
  | [] => rfl
  | f :: fs => by rw [Form.txs, Form.txs_eq fs]; rfl
theorem Form.tx_eq (f : Form) : f.tx = bif decide (f.kind = 1) then f.name.data.toList ++ scTx f.scopes else bif decide (f.kind = 2) then itoa f.n else [40] ++ join (f.kids.map Form.tx) [32] ++ [41] := by
  obtain ⟨a, b, c, d, e⟩ := f; rw [Form.tx, Form.txs_eq]; rfl
theorem nmOk_size {s : ByteArray} (h : nmOk s = true) : s.size ≤ 12 := by
  unfold nmOk at h
  rw [Bool.or_eq_true, Bool.or_eq_true, decide_eq_true_eq, decide_eq_true_eq, Bool.and_eq_true] at h
  rcases h with rfl | rfl | h
  · decide
  · decide
  · have := h.2
    unfold nmSz at this
    rw [Bool.and_eq_true, decide_eq_true_eq, decide_eq_true_eq] at this
    omega
theorem isOk_form {f : Form} {d : Nat} (h : f.isOk d = true) : (f.kind = 1 ∧ nmOk f.name = true ∧ scOk f.scopes = true) ∨ (f.kind = 2 ∧ 0 ≤ f.n ∧ f.n ≤ 999) ∨ (f.kind = 3 ∧ f.scopes = []) := by
  rw [Form.isOk_eq] at h
  cases hd : decide (d = 0) with
  | true => rw [hd] at h; cases h
  | false =>
  rw [hd, cond_false] at h
  by_cases h1 : f.kind = 1
  · rw [decide_eq_true h1, cond_true] at h
    simp only [Bool.and_eq_true] at h
    exact .inl ⟨h1, h.1, h.2.2.1⟩
  · rw [decide_eq_false h1, cond_false] at h
    by_cases h2 : f.kind = 2
    · rw [decide_eq_true h2, cond_true] at h
      simp only [Bool.and_eq_true, decide_eq_true_eq] at h
      exact .inr (.inl ⟨h2, h.2.1.1, h.2.1.2⟩)
    · rw [decide_eq_false h2, cond_false] at h
      simp only [Bool.and_eq_true, decide_eq_true_eq] at h
      exact .inr (.inr ⟨h.1, List.length_eq_zero_iff.1 (by omega)⟩)
theorem scF_all : ∀ {l : List Int} {p : Option Int}, scF p l = true → ∀ x ∈ l, 1 ≤ x ∧ x ≤ 99
  | [], p, h, x, hx => by cases hx
  | y :: l, p, h, x, hx => by
    rw [scF] at h
    simp only [Bool.and_eq_true, decide_eq_true_eq] at h
    rcases List.mem_cons.1 hx with rfl | hx
    · exact h.1
    · exact scF_all h.2.2 x hx
theorem scOk_all {l : List Int} (h : scOk l = true) : (∀ x ∈ l, 1 ≤ x ∧ x ≤ 99) ∧ l.length ≤ 24 := by
  unfold scOk at h
  rw [Bool.and_eq_true, decide_eq_true_eq] at h
  exact ⟨scF_all h.1, by omega⟩
theorem lens_itoa : ∀ {l : List Int}, (∀ x ∈ l, 1 ≤ x ∧ x ≤ 999) → Lib.lens (l.map itoa) ≤ 3 * l.length
  | [], _ => by simp [Lib.lens]
  | x :: l, h => by
    have h1 := lens_itoa (l := l) (fun y hy => h y (by simp [hy]))
    have h2 := itoa_len (n := x) (by have := h x (by simp); omega) (by have := h x (by simp); omega)
    rw [List.map_cons, lens_cons, List.length_cons]; omega
theorem scTx_len {l : List Int} (h : scOk l = true) : (scTx l).length ≤ 2 + 4 * l.length := by
  obtain ⟨h1, h2⟩ := scOk_all h
  unfold scTx
  cases decide (l.length = 0) with
  | true => simp
  | false =>
    have a := join_len (l.map itoa) [44]
    have b := lens_itoa (l := l) (fun x hx => by have := h1 x hx; omega)
    simp only [List.length_map, List.length_singleton] at a
    rw [cond_false]; simp only [List.length_append, List.length_singleton]; omega
theorem tx_len : ∀ (n : Nat) (f : Form) (d : Nat), f.w ≤ n → f.isOk d = true → f.tx.length ≤ 16 * f.w := by
  intro n
  induction n with
  | zero => intro f d h; have := f.w_kids; omega
  | succ n ih =>
    intro f d h hok
    have hw := f.w_kids
    rw [Form.tx_eq]
    rcases isOk_form hok with ⟨h1, h2, h3⟩ | ⟨h1, h2, h3⟩ | ⟨h1, h2⟩
    · have a := nmOk_size h2
      have b := scTx_len h3
      rw [sz_list] at a
      rw [decide_eq_true h1, cond_true, List.length_append]; omega
    · have a := itoa_len h2 h3
      rw [decide_eq_false (by omega), cond_false, decide_eq_true h1, cond_true]; omega
    · have hk := (isOk_kids hok).2
      have key : ∀ l : List Form, (∀ x ∈ l, x ∈ f.kids) → Lib.lens (l.map Form.tx) + l.length ≤ 16 * Form.ws l := by
        intro l
        induction l with
        | nil => intro _; simp [Lib.lens, Form.ws]
        | cons x l ihl =>
          intro hx
          have a := ihl (fun y hy => hx y (by simp [hy]))
          have hm := Form.ws_mem (hx x (by simp))
          have b := ih x (d - 1) (by omega) (hk x (hx x (by simp)))
          rw [List.map_cons, lens_cons, Form.ws, List.length_cons]; omega
      have a := join_len (f.kids.map Form.tx) [32]
      have b := key f.kids (fun x hx => hx)
      simp only [List.length_map, List.length_singleton] at a
      rw [decide_eq_false (by omega), cond_false, decide_eq_false (by omega), cond_false]
      simp only [List.length_append, List.length_singleton]; omega
theorem loop_txt {α γ : Type} {xs : List α} {f : α → List UInt8} {L : Nat → List ByteArray → Int → Option γ} {E : Nat → α → Option ByteArray} {F : Nat → List ByteArray → Option γ} {w : γ}
    (h0 : ∀ m acc k, L (m + 1) acc k = bif decide (k < (xs.length : Int)) then (idx xs k).bind fun a => (E m a).bind fun v => chk (decide ((acc.length + [v].length) * 16 ≤ 140737488355328)) (L m (acc ++ [v]) (k + 1)) else F m acc)
    (hE : ∀ a ∈ xs, Tr (fun m => E m a) (mkB (f a))) (hb : xs.length ≤ 2 ^ 40) (hF : Tr (fun m => F m ((xs.map f).map mkB)) w) : Tr (fun m => L m [] 0) w := by
  have key := drop_ind xs (fun k zs => ∀ acc : List (List UInt8), acc.length = k → acc ++ zs.map f = xs.map f → Tr (fun m => L m (acc.map mkB) (k : Int)) w) ?_ ?_ 0 (Nat.zero_le _) [] rfl (by simp)
  · exact key
  · intro acc _ hacc
    rw [List.map_nil, List.append_nil] at hacc
    refine Tr.step (fun m => by rw [h0, ltN_self, cond_false]) ?_
    rw [hacc]; exact hF
  · intro k x zs hk hx hd ih acc hl hacc
    refine Tr.step (fun m => by rw [h0, ltN hk, cond_true, idx_nat hx, Option.bind_some, succN]) ?_
    refine Tr.bind (hE x (List.mem_of_getElem? hx)) (Tr.chk (decide_eq_true (by simp; omega)) ?_)
    have := ih (acc ++ [f x]) (by simp [hl]) (by rw [List.append_assoc]; exact hacc)
    rw [List.map_append] at this
    exact this
theorem implText_n : ∀ (n : Nat) (f : Form) (d : Nat), f.w ≤ n → f.w ≤ 2 ^ 30 → f.isOk d = true → Tr (fun m => m_impl_formText m f) (mkB f.tx) := by
  intro n
  induction n with
  | zero => intro f d h; have := f.w_kids; omega
  | succ n ih =>
    intro f d h hb hok
    have hw := f.w_kids
    refine Tr.step (fun m => by rw [m_impl_formText]) ?_
    rw [Form.tx_eq]
    rcases isOk_form hok with ⟨h1, h2, h3⟩ | ⟨h1, h2, h3⟩ | ⟨h1, h2⟩
    · refine Tr.tt (decide_eq_true h1) ?_
      rw [decide_eq_true h1, cond_true]
      obtain ⟨s1, s2⟩ := scOk_all h3
      unfold scTx
      by_cases h0 : f.scopes.length = 0
      · rw [decide_eq_true h0, cond_true, List.append_nil, mkB_of]
        exact Tr.tt (decide_eq_true (by omega)) Tr.val
      · rw [decide_eq_false h0, cond_false]
        refine Tr.ff (decide_eq_false (by omega)) ?_
        refine loop_txt (xs := f.scopes) (f := itoa) (L := fun m g k => m_impl_formText_l2 m f g k) (E := fun m a => m_strconv_Itoa m a) (F := fun m g => m_impl_formText_j1 m f g) (fun m g k => by rw [m_impl_formText_l2]) (fun a ha => itoa_tr (by have := s1 a ha; omega) (by have := s1 a ha; omega)) (by omega) ?_
        have b := lens_itoa (l := f.scopes) (fun x hx => by have := s1 x hx; omega)
        have a := join_len (f.scopes.map itoa) [44]
        simp only [List.length_map, List.length_singleton] at a
        have hn := nmOk_size h2
        rw [sz_list] at hn
        refine Tr.step (fun m => by rw [m_impl_formText_j1]) ?_
        refine Tr.cat (a := f.name.data.toList) (b := [123]) (mkB_of _).symm rfl (by simp only [List.length_append, List.length_singleton]; omega) ?_
        refine Tr.bind (join_tr (xs := f.scopes.map itoa) (sep := [44]) (by rw [List.length_map]; omega) (by simp only [List.length_map, List.length_singleton]; omega)) ?_
        refine Tr.cat rfl rfl (by simp only [List.length_append, List.length_singleton]; omega) ?_
        refine Tr.cat (b := [125]) rfl rfl (by simp only [List.length_append, List.length_singleton]; omega) ?_
        rw [show f.name.data.toList ++ ([123] ++ join (f.scopes.map itoa) [44] ++ [125]) = f.name.data.toList ++ [123] ++ join (f.scopes.map itoa) [44] ++ [125] by simp]
        exact Tr.val
    · refine Tr.ff (decide_eq_false (by omega)) (Tr.tt (decide_eq_true h1) ?_)
      rw [decide_eq_false (show ¬ f.kind = 1 by omega), cond_false, decide_eq_true h1, cond_true]
      exact Tr.bind (itoa_tr h2 h3) Tr.val
    · refine Tr.ff (decide_eq_false (by omega)) (Tr.ff (decide_eq_false (by omega)) ?_)
      rw [decide_eq_false (show ¬ f.kind = 1 by omega), cond_false, decide_eq_false (show ¬ f.kind = 2 by omega), cond_false]
      have hk := (isOk_kids hok).2
      have hl := Form.ws_len f.kids
      have hj : ∀ l : List Form, (∀ x ∈ l, x ∈ f.kids) → Lib.lens (l.map Form.tx) ≤ 16 * Form.ws l := by
        intro l
        induction l with
        | nil => intro _; simp [Lib.lens]
        | cons x l ihl =>
          intro hx
          have a := ihl (fun y hy => hx y (by simp [hy]))
          have b := tx_len _ x (d - 1) (Nat.le_refl _) (hk x (hx x (by simp)))
          rw [List.map_cons, lens_cons, Form.ws]; omega
      have hjj := hj f.kids (fun x hx => hx)
      have a := join_len (f.kids.map Form.tx) [32]
      simp only [List.length_map, List.length_singleton] at a
      refine loop_txt (xs := f.kids) (f := Form.tx) (L := fun m g k => m_impl_formText_l3 m f g k) (E := fun m a => m_impl_formText m a) (F := fun m g => (m_strings_Join m g (⟨#[32]⟩ : ByteArray)).bind fun v27 => (bcat (⟨#[40]⟩ : ByteArray) v27).bind fun v28 => (bcat v28 (⟨#[41]⟩ : ByteArray)).bind fun v29 => some v29) (fun m g k => by rw [m_impl_formText_l3]) (fun x hx => ih x (d - 1) (by have := Form.ws_mem hx; omega) (by have := Form.ws_mem hx; omega) (hk x hx)) (by omega) ?_
      refine Tr.bind (join_tr (xs := f.kids.map Form.tx) (sep := [32]) (by rw [List.length_map]; omega) (by simp only [List.length_map, List.length_singleton]; omega)) ?_
      refine Tr.cat (a := [40]) rfl rfl (by simp; omega) ?_
      exact Tr.cat (b := [41]) rfl rfl (by simp; omega) Tr.val
theorem implText_tr {f : Form} {d : Nat} (hb : f.w ≤ 2 ^ 30) (h : f.isOk d = true) : Tr (fun m => m_impl_formText m f) (mkB f.tx) := implText_n _ f d (Nat.le_refl _) hb h
end Go.Abs
end
section
set_option linter.unusedVariables false
set_option linter.unusedSimpArgs false
set_option maxHeartbeats 2000000
namespace Go.Abs
open Go.Lib (itoa join joinTail decDigits nDigits)
def idTx (x : Int) : List UInt8 := [35] ++ itoa x
mutual
def Core.tx : Core → List UInt8
  | .mk k i nm n ids d kids =>
    bif decide (k = 1) then idTx i else bif decide (k = 2) then nm.data.toList else bif decide (k = 3) then itoa n else bif decide (k = 4) then [39] ++ d.tx
    else (bif decide (k = 5) then [40, 102, 117, 110, 32, 40] ++ join (ids.map idTx) [32] ++ [41, 32] else bif decide (k = 6) then [40] else [40, 105, 102, 32]) ++ join (Core.txs kids) [32] ++ [41]
def Core.txs : List Core → List (List UInt8)
  | [] => []
  | f :: fs => f.tx :: Core.txs fs
end
theorem Core.txs_eq : ∀ l : List Core, Core.txs l = l.map Core.tx
  | [] => rfl
  | f :: fs => by rw [Core.txs, Core.txs_eq fs]; rfl
def Core.hd (c : Core) : List UInt8 := bif decide (c.kind = 5) then [40, 102, 117, 110, 32, 40] ++ join (c.ids.map idTx) [32] ++ [41, 32] else bif decide (c.kind = 6) then [40] else [40, 105, 102, 32]
theorem Core.tx_eq (c : Core) : c.tx = bif decide (c.kind = 1) then idTx c.id else bif decide (c.kind = 2) then c.name.data.toList else bif decide (c.kind = 3) then itoa c.n else bif decide (c.kind = 4) then [39] ++ c.data.tx
    else c.hd ++ join (c.kids.map Core.tx) [32] ++ [41] := by
  obtain ⟨a, b, c, d, e, f, g⟩ := c; rw [Core.tx, Core.txs_eq]; rfl
theorem idsOk_all : ∀ {l inn : List Int}, idsOk inn l = true → ∀ x ∈ l, 1 ≤ x ∧ x ≤ 999
  | [], inn, h, x, hx => by cases hx
  | y :: l, inn, h, x, hx => by
    rw [idsOk] at h
    simp only [Bool.and_eq_true, decide_eq_true_eq] at h
    rcases List.mem_cons.1 hx with rfl | hx
    · exact h.1
    · exact idsOk_all h.2.2 x hx
theorem isOk_core {c : Core} {ar : List Int} {d : Nat} (h : c.isOk ar d = true) : (c.kind = 1 ∧ 1 ≤ c.id ∧ c.id ≤ 999 ∧ c.kids = []) ∨ (c.kind = 2 ∧ nmOk c.name = true ∧ c.kids = []) ∨ (c.kind = 3 ∧ 0 ≤ c.n ∧ c.n ≤ 999 ∧ c.kids = []) ∨ (c.kind = 4 ∧ c.data.valid = true ∧ c.kids = []) ∨
    (c.kind = 5 ∧ ∀ x ∈ c.ids, 1 ≤ x ∧ x ≤ 999) ∨ c.kind = 6 ∨ c.kind = 7 := by
  have hF := (isOk_parts h).1
  unfold Core.okF lenI at hF
  by_cases h1 : c.kind = 1
  · rw [decide_eq_true h1, cond_true] at hF
    simp only [Bool.and_eq_true, decide_eq_true_eq] at hF
    exact .inl ⟨h1, hF.1.1, hF.1.2, List.length_eq_zero_iff.1 (by omega)⟩
  rw [decide_eq_false h1, cond_false] at hF
  by_cases h2 : c.kind = 2
  · rw [decide_eq_true h2, cond_true] at hF
    simp only [Bool.and_eq_true, decide_eq_true_eq] at hF
    exact .inr (.inl ⟨h2, hF.1, List.length_eq_zero_iff.1 (by omega)⟩)
  rw [decide_eq_false h2, cond_false] at hF
  by_cases h3 : c.kind = 3
  · rw [decide_eq_true h3, cond_true] at hF
    simp only [Bool.and_eq_true, decide_eq_true_eq] at hF
    exact .inr (.inr (.inl ⟨h3, hF.1.1, hF.1.2, List.length_eq_zero_iff.1 (by omega)⟩))
  rw [decide_eq_false h3, cond_false] at hF
  by_cases h4 : c.kind = 4
  · rw [decide_eq_true h4, cond_true] at hF
    simp only [Bool.and_eq_true, decide_eq_true_eq] at hF
    exact .inr (.inr (.inr (.inl ⟨h4, hF.1.1, List.length_eq_zero_iff.1 (by omega)⟩)))
  rw [decide_eq_false h4, cond_false] at hF
  by_cases h5 : c.kind = 5
  · rw [decide_eq_true h5, cond_true] at hF
    simp only [Bool.and_eq_true] at hF
    exact .inr (.inr (.inr (.inr (.inl ⟨h5, idsOk_all hF.1⟩))))
  rw [decide_eq_false h5, cond_false] at hF
  by_cases h6 : c.kind = 6
  · exact .inr (.inr (.inr (.inr (.inr (.inl h6)))))
  rw [decide_eq_false h6, cond_false] at hF
  by_cases h7 : c.kind = 7
  · exact .inr (.inr (.inr (.inr (.inr (.inr h7)))))
  rw [decide_eq_false h7, cond_false] at hF
  cases hF
theorem fvalid_isOk {f : Form} (h : f.valid = true) : f.isOk 40 = true := by
  unfold Form.valid at h
  rw [Bool.and_eq_true] at h; exact h.1
theorem lens_idTx : ∀ {l : List Int}, (∀ x ∈ l, 1 ≤ x ∧ x ≤ 999) → Lib.lens (l.map idTx) ≤ 4 * l.length
  | [], _ => by simp [Lib.lens]
  | x :: l, h => by
    have h1 := lens_idTx (l := l) (fun y hy => h y (by simp [hy]))
    have h2 := itoa_len (n := x) (by have := h x (by simp); omega) (by have := h x (by simp); omega)
    rw [List.map_cons, lens_cons, List.length_cons]
    unfold idTx at h1 ⊢
    simp only [List.length_append, List.length_singleton]; omega
theorem hd_len {c : Core} (h : c.kind = 5 → ∀ x ∈ c.ids, 1 ≤ x ∧ x ≤ 999) : c.hd.length ≤ 8 + 5 * c.ids.length := by
  unfold Core.hd
  by_cases h5 : c.kind = 5
  · rw [decide_eq_true h5, cond_true]
    have a := join_len (c.ids.map idTx) [32]
    have b := lens_idTx (h h5)
    simp only [List.length_map, List.length_singleton] at a
    simp only [List.length_append, List.length_cons, List.length_nil]; omega
  · rw [decide_eq_false h5, cond_false]
    cases decide (c.kind = 6) <;> simp <;> omega
theorem ctx_len : ∀ (n : Nat) (c : Core) (ar : List Int) (d : Nat), c.w ≤ n → c.isOk ar d = true → c.tx.length ≤ 16 * c.w := by
  intro n
  induction n with
  | zero => intro c ar d h; have := c.w_pos; omega
  | succ n ih =>
    intro c ar d h hok
    have hw := c.w_kids
    have hk := (isOk_parts hok).2
    rw [Core.tx_eq]
    have big : (c.kind = 5 → ∀ x ∈ c.ids, 1 ≤ x ∧ x ≤ 999) → ¬ c.kind = 1 → ¬ c.kind = 2 → ¬ c.kind = 3 → ¬ c.kind = 4 → (c.hd ++ join (c.kids.map Core.tx) [32] ++ [41]).length ≤ 16 * c.w := fun h5 _ _ _ _ => by
      have key : ∀ l : List Core, (∀ x ∈ l, x ∈ c.kids) → Lib.lens (l.map Core.tx) + l.length ≤ 16 * Core.ws l := by
        intro l
        induction l with
        | nil => intro _; simp [Lib.lens, Core.ws]
        | cons x l ihl =>
          intro hx
          have a := ihl (fun y hy => hx y (by simp [hy]))
          have hm := Core.ws_mem (hx x (by simp))
          have b := ih x _ (d - 1) (by omega) (hk x (hx x (by simp)))
          rw [List.map_cons, lens_cons, Core.ws, List.length_cons]; omega
      have a := join_len (c.kids.map Core.tx) [32]
      have b := key c.kids (fun x hx => hx)
      have e := hd_len h5
      have dw := c.data.w_pos
      simp only [List.length_map, List.length_singleton] at a
      simp only [List.length_append, List.length_singleton]; omega
    rcases isOk_core hok with ⟨h1, h2, h3, _⟩ | ⟨h1, h2, _⟩ | ⟨h1, h2, h3, _⟩ | ⟨h1, h2, _⟩ | ⟨h1, h2⟩ | h1 | h1
    · have a := itoa_len (n := c.id) (by omega) h3
      rw [decide_eq_true h1, cond_true]
      unfold idTx
      simp only [List.length_append, List.length_singleton]; omega
    · have a := nmOk_size h2
      rw [sz_list] at a
      rw [decide_eq_false (by omega), cond_false, decide_eq_true h1, cond_true]; omega
    · have a := itoa_len h2 h3
      rw [decide_eq_false (by omega), cond_false, decide_eq_false (by omega), cond_false, decide_eq_true h1, cond_true]; omega
    · have a := tx_len _ c.data 40 (Nat.le_refl _) (fvalid_isOk h2)
      rw [decide_eq_false (by omega), cond_false, decide_eq_false (by omega), cond_false, decide_eq_false (by omega), cond_false, decide_eq_true h1, cond_true]
      simp only [List.length_append, List.length_singleton]; omega
    · rw [decide_eq_false (by omega), cond_false, decide_eq_false (by omega), cond_false, decide_eq_false (by omega), cond_false, decide_eq_false (by omega), cond_false]
      exact big (fun _ => h2) (by omega) (by omega) (by omega) (by omega)
    · rw [decide_eq_false (by omega), cond_false, decide_eq_false (by omega), cond_false, decide_eq_false (by omega), cond_false, decide_eq_false (by omega), cond_false]
      exact big (fun _ => by omega) (by omega) (by omega) (by omega) (by omega)
    · rw [decide_eq_false (by omega), cond_false, decide_eq_false (by omega), cond_false, decide_eq_false (by omega), cond_false, decide_eq_false (by omega), cond_false]
      exact big (fun _ => by omega) (by omega) (by omega) (by omega) (by omega)
theorem kids_lens {c : Core} {ar : List Int} {d : Nat} (h : c.isOk ar d = true) : Lib.lens (c.kids.map Core.tx) ≤ 16 * Core.ws c.kids := by
  have hk := (isOk_parts h).2
  have key : ∀ l : List Core, (∀ x ∈ l, x ∈ c.kids) → Lib.lens (l.map Core.tx) ≤ 16 * Core.ws l := by
    intro l
    induction l with
    | nil => intro _; simp [Lib.lens]
    | cons x l ihl =>
      intro hx
      have a := ihl (fun y hy => hx y (by simp [hy]))
      have b := ctx_len _ x _ (d - 1) (Nat.le_refl _) (hk x (hx x (by simp)))
      rw [List.map_cons, lens_cons, Core.ws]; omega
  exact key c.kids (fun x hx => hx)
theorem implCText_n : ∀ (n : Nat) (c : Core) (ar : List Int) (d : Nat), c.w ≤ n → c.w ≤ 2 ^ 30 → c.isOk ar d = true → Tr (fun m => m_impl_coreText m c) (mkB c.tx) := by
  intro n
  induction n with
  | zero => intro c ar d h; have := c.w_pos; omega
  | succ n ih =>
    intro c ar d h hb hok
    have hw := c.w_kids
    have hk := (isOk_parts hok).2
    have hl := Core.ws_len c.kids
    have kl := kids_lens hok
    have a := join_len (c.kids.map Core.tx) [32]
    simp only [List.length_map, List.length_singleton] at a
    refine Tr.step (fun m => by rw [m_impl_coreText]) ?_
    refine loop_txt (xs := c.kids) (f := Core.tx) (L := fun m g k => m_impl_coreText_l2 m c g k) (E := fun m a => m_impl_coreText m a) (F := fun m g => m_impl_coreText_j1 m c g) (fun m g k => by rw [m_impl_coreText_l2]) (fun x hx => ih x _ (d - 1) (by have := Core.ws_mem hx; omega) (by have := Core.ws_mem hx; omega) (hk x hx)) (by omega) ?_
    refine Tr.step (fun m => by rw [m_impl_coreText_j1]) ?_
    refine Tr.bind (join_tr (xs := c.kids.map Core.tx) (sep := [32]) (by rw [List.length_map]; omega) (by simp only [List.length_map, List.length_singleton]; omega)) ?_
    rw [Core.tx_eq]
    rcases isOk_core hok with ⟨h1, h2, h3, _⟩ | ⟨h1, h2, _⟩ | ⟨h1, h2, h3, _⟩ | ⟨h1, h2, _⟩ | ⟨h1, h2⟩ | h1 | h1
    · have b := itoa_len (n := c.id) (by omega) h3
      rw [decide_eq_true h1, cond_true]
      refine Tr.eq (fun m => by rw [cond_true]) ?_
      refine Tr.bind (itoa_tr (by omega) h3) ?_
      exact Tr.cat (a := [35]) rfl rfl (by simp only [List.length_singleton]; omega) Tr.val
    · rw [decide_eq_false (by omega), cond_false, decide_eq_true h1, cond_true, mkB_of]
      exact Tr.eq (fun m => by rw [cond_false, cond_true]) Tr.val
    · rw [decide_eq_false (by omega), cond_false, decide_eq_false (by omega), cond_false, decide_eq_true h1, cond_true]
      refine Tr.eq (fun m => by rw [cond_false, cond_false, cond_true]) ?_
      exact Tr.bind (itoa_tr h2 h3) Tr.val
    · have b := tx_len _ c.data 40 (Nat.le_refl _) (fvalid_isOk h2)
      rw [decide_eq_false (by omega), cond_false, decide_eq_false (by omega), cond_false, decide_eq_false (by omega), cond_false, decide_eq_true h1, cond_true]
      refine Tr.eq (fun m => by rw [cond_false, cond_false, cond_false, cond_true]) ?_
      refine Tr.bind (implText_tr (by omega) (fvalid_isOk h2)) ?_
      exact Tr.cat (a := [39]) rfl rfl (by simp only [List.length_singleton]; omega) Tr.val
    · rw [decide_eq_false (by omega), cond_false, decide_eq_false (by omega), cond_false, decide_eq_false (by omega), cond_false, decide_eq_false (by omega), cond_false, decide_eq_true h1]
      refine Tr.eq (fun m => by rw [cond_false, cond_false, cond_false, cond_false, cond_true]) ?_
      have e := lens_idTx h2
      have e2 := join_len (c.ids.map idTx) [32]
      simp only [List.length_map, List.length_singleton] at e2
      refine loop_txt (xs := c.ids) (f := idTx) (L := fun m g k => m_impl_coreText_l4 m c (mkB (join (c.kids.map Core.tx) [32])) g k) (E := fun m x => (m_strconv_Itoa m x).bind fun v => bcat (⟨#[35]⟩ : ByteArray) v) (F := fun m g => m_impl_coreText_j3 m (mkB (join (c.kids.map Core.tx) [32])) g) (fun m g k => by
        rw [m_impl_coreText_l4]
        cases decide (k < (c.ids.length : Int)) with
        | false => rfl
        | true =>
          rw [cond_true, cond_true]
          cases idx c.ids k with
          | none => rfl
          | some x => rw [Option.bind_some, Option.bind_some, Option.bind_assoc]) (fun x hx => ?_) (by omega) ?_
      · have hx2 := h2 x hx
        have b := itoa_len (n := x) (by omega) (by omega)
        exact Tr.bind (itoa_tr (by omega) (by omega)) (Tr.of fun m => bcat_mk (a := [35]) (by simp only [List.length_singleton]; omega))
      · refine Tr.step (fun m => by rw [m_impl_coreText_j3]) ?_
        refine Tr.bind (join_tr (xs := c.ids.map idTx) (sep := [32]) (by rw [List.length_map]; omega) (by simp only [List.length_map, List.length_singleton]; omega)) ?_
        refine Tr.cat (a := [40, 102, 117, 110, 32, 40]) rfl rfl (by simp only [List.length_cons, List.length_nil]; omega) ?_
        refine Tr.cat (b := [41, 32]) rfl rfl (by simp only [List.length_append, List.length_cons, List.length_nil]; omega) ?_
        refine Tr.cat rfl rfl (by simp only [List.length_append, List.length_cons, List.length_nil]; omega) ?_
        refine Tr.cat (b := [41]) rfl rfl (by simp only [List.length_append, List.length_cons, List.length_nil]; omega) ?_
        unfold Core.hd
        rw [decide_eq_true h1, cond_true]
        exact Tr.val
    · rw [decide_eq_false (by omega), cond_false, decide_eq_false (by omega), cond_false, decide_eq_false (by omega), cond_false, decide_eq_false (by omega), cond_false, decide_eq_false (show ¬ c.kind = 5 by omega), decide_eq_true h1]
      refine Tr.eq (fun m => by rw [cond_false, cond_false, cond_false, cond_false, cond_false, cond_true]) ?_
      refine Tr.cat (a := [40]) rfl rfl (by simp only [List.length_cons, List.length_nil]; omega) ?_
      refine Tr.cat (b := [41]) rfl rfl (by simp only [List.length_append, List.length_cons, List.length_nil]; omega) ?_
      unfold Core.hd
      rw [decide_eq_false (show ¬ c.kind = 5 by omega), cond_false, decide_eq_true h1, cond_true]
      exact Tr.val
    · rw [decide_eq_false (by omega), cond_false, decide_eq_false (by omega), cond_false, decide_eq_false (by omega), cond_false, decide_eq_false (by omega), cond_false, decide_eq_false (show ¬ c.kind = 5 by omega), decide_eq_false (show ¬ c.kind = 6 by omega)]
      refine Tr.eq (fun m => by rw [cond_false, cond_false, cond_false, cond_false, cond_false, cond_false]) ?_
      refine Tr.cat (a := [40, 105, 102, 32]) rfl rfl (by simp only [List.length_cons, List.length_nil]; omega) ?_
      refine Tr.cat (b := [41]) rfl rfl (by simp only [List.length_append, List.length_cons, List.length_nil]; omega) ?_
      unfold Core.hd
      rw [decide_eq_false (show ¬ c.kind = 5 by omega), cond_false, decide_eq_false (show ¬ c.kind = 6 by omega), cond_false]
      exact Tr.val
noncomputable def fmtC (c : Core) : ByteArray := bif c.valid then mkB c.tx else (⟨#[]⟩ : ByteArray)
theorem cvalid_isOk {c : Core} (h : c.valid = true) : c.isOk [] 120 = true := by
  unfold Core.valid at h
  rw [Bool.and_eq_true] at h; exact h.1
theorem implFormatCore_tr (c : Core) (hf : c.fit) (hb : c.w ≤ 2 ^ 30) : Tr (fun m => m_impl_FormatCore m c) (fmtC c) := by
  refine Tr.eq (fun m => by unfold m_impl_FormatCore; rfl) ?_
  refine Tr.bind (implCoreValid_tr c hf (by omega)) ?_
  unfold fmtC
  cases hv : c.valid with
  | false => exact Tr.tt rfl Tr.val
  | true => exact Tr.ff rfl (Tr.bind (implCText_n _ c [] 120 (Nat.le_refl _) hb (cvalid_isOk hv)) Tr.val)
end Go.Abs
end
