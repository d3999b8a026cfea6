/- A part of the proof: what the functions that the law calls answer, as pure values. -/
import Derived.BigQuiet
import Derived.Deep.LoopGhost
import Derived.Deep.QuietTactic
import Derived.Laws.RangeAny
import Derived.Lib.IndexAny
import Derived.Lib.OthersKept
import Derived.Test.YtidbdmpbcpanjaaGreatDoorKb33c82fdb81d
import Derived.WalkMore
set_option linter.unusedSimpArgs false
set_option linter.unusedVariables false
section
set_option linter.unusedVariables false
set_option linter.unusedSimpArgs false
set_option maxHeartbeats 4000000
namespace Go.Abs
section
open Go.Proofs Go.RowKit Go.Sort Go.Lib
theorem enc_cases (r : Int) (h1 : 128 ≤ r) (hv : Utf8.valid r = true) : (∃ a b : UInt8, Utf8.encode r = ⟨#[a, b]⟩ ∧ 128 ≤ b.toNat) ∨ (∃ a b c : UInt8, Utf8.encode r = ⟨#[a, b, c]⟩ ∧ 128 ≤ c.toNat) ∨ (∃ a b c d : UInt8, Utf8.encode r = ⟨#[a, b, c, d]⟩ ∧ 128 ≤ d.toNat) := by
  unfold Utf8.encode
  rw [hv]
  simp only [if_true]
  have hb : ∀ k : Nat, 128 ≤ (UInt8.ofNat (128 + k % 64)).toNat := fun k => by rw [UInt8.toNat_ofNat']; omega
  rw [if_neg (by omega)]
  split
  · exact .inl ⟨_, _, rfl, hb _⟩
  · split
    · exact .inr (.inl ⟨_, _, _, rfl, hb _⟩)
    · exact .inr (.inr ⟨_, _, _, _, rfl, hb _⟩)
theorem idx_high : ∀ (l : List UInt8) (c : UInt8), (∀ x ∈ l, x.toNat < 128) → 128 ≤ c.toNat → Lib.indexByte l c = -1
  | [], c, _, _ => rfl
  | x :: l, c, h, hc => by
    have h1 := h x (List.mem_cons_self ..)
    have hne : ¬ x = c := fun e => by subst e; omega
    rw [Lib.indexByte, idx_high l c (fun y hy => h y (List.mem_cons_of_mem _ hy)) hc]
    simp [hne]
theorem below_iter (w : World) (s : ByteArray) (i : Nat) : Below w.heap.size w (w.iter s i) := ⟨rfl, rfl, rfl, by show w.heap.size ≤ (w.heap.push _).size; rw [Array.size_push]; omega, fun b hb => heap_alloc_old w _ hb⟩
theorem get_in (s : ByteArray) (p : Nat) (h : p < s.size) : s.get! p = s[p]'h := by
  simp [ByteArray.get!, getElem!_pos, h]
  rfl
theorem decode_cont (s : ByteArray) (pos : Nat) (h : pos < s.size) (ha : 128 ≤ (s[pos]'h).toNat) : ∀ j, j < (Utf8.decode s pos).2 → ∃ hj : pos + j < s.size, 128 ≤ (s[pos + j]'hj).toNat := by
  have c0 : ∃ hj : pos + 0 < s.size, 128 ≤ (s[pos + 0]'hj).toNat := ⟨h, ha⟩
  have ck : ∀ k, (decide (pos + k < s.size) && ((s.get! (pos + k)).toNat / 64 == 2)) = true → ∃ hj : pos + k < s.size, 128 ≤ (s[pos + k]'hj).toNat := fun k hk => by
    simp only [Bool.and_eq_true, decide_eq_true_eq, beq_iff_eq] at hk
    refine ⟨hk.1, ?_⟩
    have := hk.2
    rw [get_in s _ hk.1] at this
    omega
  have hn : ¬ (s[pos]'h).toNat < 128 := by omega
  intro j hj
  simp only [Utf8.decode, get_at s pos h, hn, if_false] at hj
  have one : j < 1 → ∃ hj : pos + j < s.size, 128 ≤ (s[pos + j]'hj).toNat := fun h1 => by
    obtain rfl : j = 0 := by omega
    exact c0
  split at hj
  · rename_i h1
    simp only [Bool.and_eq_true] at h1
    have c1 := ck 1 (by simpa using h1.2)
    split at hj
    · have : j = 0 ∨ j = 1 := by omega
      rcases this with rfl | rfl
      · exact c0
      · exact c1
    · exact one hj
  · split at hj
    · rename_i h1
      simp only [Bool.and_eq_true] at h1
      have c1 := ck 1 (by simpa using h1.1.2)
      have c2 := ck 2 (by simpa using h1.2)
      split at hj
      · have : j = 0 ∨ j = 1 ∨ j = 2 := by omega
        rcases this with rfl | rfl | rfl
        · exact c0
        · exact c1
        · exact c2
      · exact one hj
    · split at hj
      · rename_i h1
        simp only [Bool.and_eq_true] at h1
        have c1 := ck 1 (by simpa using h1.1.1.2)
        have c2 := ck 2 (by simpa using h1.1.2)
        have c3 := ck 3 (by simpa using h1.2)
        split at hj
        · have : j = 0 ∨ j = 1 ∨ j = 2 ∨ j = 3 := by omega
          rcases this with rfl | rfl | rfl | rfl
          · exact c0
          · exact c1
          · exact c2
          · exact c3
        · exact one hj
      · exact one hj
theorem noAny_on {s : ByteArray} {i n : Nat} (h : Lib.NoAny s.data.toList [32, 40, 41, 123, 125] i) (hn : ∀ j, j < n → ∃ hj : i + j < s.size, 128 ≤ (s[i + j]'hj).toNat) : Lib.NoAny s.data.toList [32, 40, 41, 123, 125] (i + n) := fun j b hj hb => by
  by_cases h1 : j < i
  · exact h j b h1 hb
  · obtain ⟨m, rfl⟩ : ∃ m, j = i + m := ⟨j - i, by omega⟩
    obtain ⟨hlt, h2⟩ := hn m (by omega)
    have h3 : s.data.toList[i + m]? = some (s[i + m]'hlt) := Lib.data_getElem? s _ hlt
    rw [hb] at h3
    have h4 := Option.some.inj h3
    rw [← h4] at h2
    rw [Bool.eq_false_iff]
    intro hc
    simp at hc
    rcases hc with rfl | rfl | rfl | rfl | rfl <;> revert h2 <;> decide
theorem below_alloc1 (w : World) (o : Obj) : Below w.heap.size w (w.alloc o) := ⟨rfl, rfl, rfl, by show w.heap.size ≤ (w.heap.push _).size; rw [Array.size_push]; omega, fun b hb => heap_alloc_old w _ hb⟩
theorem below_alloc2 (w : World) (o o2 : Obj) : Below w.heap.size w ((w.alloc o).alloc o2) := by
  have h := below_alloc1 (w.alloc o) o2
  exact (below_alloc1 w o).trans ⟨h.os, h.tape, h.output, h.size, fun k hk => h.block k (by show k < (w.heap.push _).size; rw [Array.size_push]; omega)⟩
end
end Go.Abs
end
