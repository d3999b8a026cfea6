/- The drawing of core programs: it answers, and what is drawn is not large. -/
import Derived.Test.YtpkelhmjemcogaaPureA
import Derived.Test.YtpkelhmjemcogaaMirT1
set_option linter.unusedVariables false
set_option linter.unusedSimpArgs false
namespace Go.Abs

theorem byte_mem {r : l15Rd} {K : Int} (h : OkRd r K) {x : Int} (hx : x ∈ r.b) : 0 ≤ x ∧ x < 256 := h.byte x hx

theorem tmod_lt {a b : Int} (ha : 0 ≤ a) (hb : 0 < b) : 0 ≤ a.tmod b ∧ a.tmod b < b := by
  rw [Int.tmod_eq_emod_of_nonneg ha]
  exact ⟨Int.emod_nonneg _ (by omega), Int.emod_lt_of_pos _ hb⟩
theorem pick_tq (o : l15Rd) (n : Int) (K : Int) (h : OkRd o K) (hK : K ≤ 1000000000000) : TQ (fun m => m_spec_l15Rd_pick m o n) (fun r => OkRd r.2 (K + 1) ∧ r.2.b = o.b ∧ (0 < n → 0 ≤ r.1 ∧ r.1 < n) ∧ (n ≤ 0 → r.1 = 0)) := by
  have h0 := h.lo
  have h1 := h.hi
  have e1 : w64 (o.p + 1) = o.p + 1 := w64_in (by omega)
  have e2 : w64 (o.p + 1 - 1) = o.p := by rw [w64_in (by omega)]; omega
  have hok : OkRd (l15Rd.mk o.b (o.p + 1)) (K + 1) := ⟨h.len, h.byte, by simp only; omega, by simp only; omega⟩
  refine TQ.eq (fun m => by unfold m_spec_l15Rd_pick; rw [e1, e2]) ?_
  refine TQ.cond (fun hc => TQ.val ⟨hok, rfl, fun hn => ?_, fun _ => rfl⟩) (fun hc => ?_)
  · simp at hc; omega
  have hn : 0 < n := by simp at hc; omega
  refine TQ.cond (fun hc2 => TQ.val ⟨hok, rfl, fun _ => ⟨Int.le_refl _, hn⟩, fun _ => rfl⟩) (fun hc2 => ?_)
  have hlen : 0 < o.b.length := by simp at hc2; exact List.length_pos_iff.2 hc2
  have hlen2 := h.len
  refine TQ.cond (fun hc3 => ?_) (fun hc3 => ?_)
  · refine TQ.idx h0 (by simpa using hc3) (fun x hx => ?_)
    obtain ⟨b0, b1⟩ := byte_mem h hx
    refine TQ.chk (by simp; omega) (TQ.val ⟨hok, rfl, fun _ => ?_, fun hh => absurd hn (by omega)⟩)
    rw [w64_in (by omega)]
    exact tmod_lt b0 hn
  · refine TQ.chk (by simp; exact List.length_pos_iff.1 hlen) ?_
    obtain ⟨i0, i1⟩ := tmod_lt h0 (show (0 : Int) < o.b.length by omega)
    refine TQ.idx i0 i1 (fun x hx => ?_)
    obtain ⟨b0, b1⟩ := byte_mem h hx
    refine TQ.chk (by simp; exact List.length_pos_iff.1 hlen) ?_
    have e3 : w64 (w64 (o.p * 7) + 3) = o.p * 7 + 3 := by rw [w64_in (n := o.p * 7) (by omega), w64_in (by omega)]
    rw [e3]
    obtain ⟨j0, j1⟩ := tmod_lt (show (0 : Int) ≤ o.p * 7 + 3 by omega) (show (0 : Int) < o.b.length by omega)
    refine TQ.idx j0 j1 (fun y hy => ?_)
    obtain ⟨c0, c1⟩ := byte_mem h hy
    refine TQ.chk (by simp; exact List.length_pos_iff.1 hlen) ?_
    refine TQ.chk (by simp; omega) (TQ.val ⟨hok, rfl, fun _ => ?_, fun hh => absurd hn (by omega)⟩)
    have q1 : 0 ≤ o.p.tdiv o.b.length ∧ o.p.tdiv o.b.length ≤ o.p := by
      rw [Int.tdiv_eq_ediv_of_nonneg h0]
      exact ⟨Int.ediv_nonneg h0 (by omega), Int.ediv_le_self _ h0⟩
    have e4 : w64 (w64 (w64 (w64 (w64 x * 131) + w64 (w64 y * 1117)) + w64 (o.p * 29)) + w64 (w64 (o.p.tdiv o.b.length) * 53)) = x * 131 + y * 1117 + o.p * 29 + o.p.tdiv o.b.length * 53 := by
      rw [w64_in (n := x) (by omega), w64_in (n := y) (by omega), w64_in (n := x * 131) (by omega), w64_in (n := y * 1117) (by omega), w64_in (n := x * 131 + y * 1117) (by omega), w64_in (n := o.p * 29) (by omega), w64_in (n := o.p.tdiv o.b.length) (by omega), w64_in (n := o.p.tdiv o.b.length * 53) (by omega), w64_in (n := x * 131 + y * 1117 + o.p * 29) (by omega), w64_in (by omega)]
    rw [e4]
    have hx0 : 0 ≤ x * 131 + y * 1117 + o.p * 29 + o.p.tdiv o.b.length * 53 := by omega
    have hx1 : x * 131 + y * 1117 + o.p * 29 + o.p.tdiv o.b.length * 53 < 2 ^ 60 := by omega
    generalize x * 131 + y * 1117 + o.p * 29 + o.p.tdiv o.b.length * 53 = z at hx0 hx1
    have hz : 0 ≤ z.tdiv 64 ∧ z.tdiv 64 ≤ z := by
      rw [Int.tdiv_eq_ediv_of_nonneg hx0]
      exact ⟨by omega, by omega⟩
    rw [w64_in (n := z.tdiv 64) (by omega)]
    exact tmod_lt (xor_nonneg hx0 (by omega) hz.1 (by omega)) hn
theorem num_tq (o : l15Rd) (l : List Int) (K : Int) (h : OkRd o K) (hK : K ≤ 1000000000000) (hl : 0 < l.length) : TQ (fun m => m_spec_l15Rd_num m o l) (fun r => OkRd r.2 (K + 1) ∧ r.1 ∈ l) := by
  refine TQ.eq (fun m => by unfold m_spec_l15Rd_num; rfl) ?_
  refine TQ.bind (pick_tq o _ K h hK) (fun v hv => ?_)
  obtain ⟨h1, _, h2, _⟩ := hv
  obtain ⟨h2, h3⟩ := h2 (by omega)
  exact TQ.idx h2 h3 (fun x hx => TQ.val ⟨h1, hx⟩)
theorem of_tq (o : l15Rd) (l : List ByteArray) (K : Int) (h : OkRd o K) (hK : K ≤ 1000000000000) (hl : 0 < l.length) : TQ (fun m => m_spec_l15Rd_of m o l) (fun r => OkRd r.2 (K + 1) ∧ r.1 ∈ l) := by
  refine TQ.eq (fun m => by unfold m_spec_l15Rd_of; rfl) ?_
  refine TQ.bind (pick_tq o _ K h hK) (fun v hv => ?_)
  obtain ⟨h1, _, h2, _⟩ := hv
  obtain ⟨h2, h3⟩ := h2 (by omega)
  exact TQ.idx h2 h3 (fun x hx => TQ.val ⟨h1, hx⟩)
theorem open_tq (code : List Int) (h : ∀ x ∈ code, 0 ≤ x ∧ x < 256) : TQ (fun m => m_spec_l15Open m code) (fun r => OkRd r 0) := by
  refine TQ.eq (fun m => by unfold m_spec_l15Open; rfl) ?_
  refine TQ.cond (fun hc => ?_) (fun hc => ?_)
  · have hlt : 2000 < code.length := by simp at hc; omega
    have e : sub code 0 2000 = some (code.take 2000) := by
      unfold sub
      have : (2000 : Int) ≤ code.length := by omega
      simp [this]
    refine ⟨_, Tr.eq (fun m => by rw [e]; rfl) Tr.val, ⟨?_, ?_, ?_, ?_⟩⟩
    · simp [List.length_take]; omega
    · intro x hx; exact h x (List.mem_of_mem_take hx)
    · simp
    · simp
  · refine TQ.val ⟨?_, h, ?_, ?_⟩
    · simp at hc; simp; omega
    · simp
    · simp
end Go.Abs
