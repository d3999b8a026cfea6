/- A part of the proof: what the functions that the law calls answer, as pure values. -/
import Derived.KernelRfl
import Derived.Test.YtcebadpiebamdaaK433bdd507a07
import Derived.Test.YtcebadpiebamdaaKcbb7b35951d1
import Derived.Test.YtcebadpiebamdaaProg
set_option linter.unusedSimpArgs false
set_option linter.unusedVariables false
section
set_option linter.unusedSimpArgs false
set_option maxHeartbeats 4000000
set_option linter.unusedVariables false
namespace Go.Abs
open Go.Proofs
theorem yF25_0r : fldOf Try.prog 25 0 = some (0, 3) := by kernel_rfl
theorem yS25r : szOf Try.prog 25 = some 5 := by kernel_rfl
theorem yS3r : szOf Try.prog 3 = some 1 := by kernel_rfl
theorem yF25_1r : fldOf Try.prog 25 1 = some (1, 9) := by kernel_rfl
theorem yS9r : szOf Try.prog 9 = some 1 := by kernel_rfl
theorem yF25_2r : fldOf Try.prog 25 2 = some (2, 3) := by kernel_rfl
theorem yF25_3r : fldOf Try.prog 25 3 = some (3, 22) := by kernel_rfl
theorem yS22r : szOf Try.prog 22 = some 1 := by kernel_rfl
theorem yF25_4r : fldOf Try.prog 25 4 = some (4, 23) := by kernel_rfl
theorem yS23r : szOf Try.prog 23 = some 1 := by kernel_rfl
theorem yU3r : Try.prog.underlying 3 = some (.int .i64) := by kernel_rfl
theorem yU9r : Try.prog.underlying 9 = some .string := by kernel_rfl
theorem yU22r : Try.prog.underlying 22 = some (.slice 3) := by kernel_rfl
theorem yU23r : Try.prog.underlying 23 = some (.slice 25) := by kernel_rfl
theorem read_Form {H : Type} {enc : TypeId × Value → H} {w : World} {base : Nat} {spare : Nat → Bool} {held : Bool} : ∀ (fuel : Nat) (cs : List Value) (x : DataW H × List MemPlace), DataW.trod enc Try.prog w base spare held fuel 25 cs = some x → ∃ f : Form, T.Cells (G0 w) f.row cs ∧ T.okL f.row ∧ cs.length = 5 := by
  intro fuel
  induction fuel using Nat.strongRecOn with | _ fuel ih => ?_
  intro cs x h
  have hl := trod_len yF25_0r yS25r h
  obtain ⟨n0, y0, hn0, h0⟩ := trod_field yF25_0r yS3r h
  obtain ⟨n1, y1, hn1, h1⟩ := trod_field yF25_1r yS9r h
  obtain ⟨n2, y2, hn2, h2⟩ := trod_field yF25_2r yS3r h
  obtain ⟨n3, y3, hn3, h3⟩ := trod_field yF25_3r yS22r h
  obtain ⟨n4, y4, hn4, h4⟩ := trod_field yF25_4r yS23r h
  match cs, hl with
  | [c0, c1, c2, c3, c4], _ =>
    simp only [List.take_succ_cons, List.take_zero, List.drop_succ_cons, List.drop_zero, List.take_nil, List.drop_nil] at h0 h1 h2 h3 h4
    obtain ⟨kind, e0, o0, _⟩ := trod_i yU3r h0
    obtain ⟨name, e1, o1, _⟩ := trod_s yU9r h1
    obtain ⟨n, e2, o2, _⟩ := trod_i yU3r h2
    obtain ⟨scopes, z3, q3, e3, o3⟩ := trod_is yU22r yU3r yS3r h3
    simp only [List.cons.injEq, and_true] at q3
    subst q3
    obtain ⟨kids, z4, q4, e4, o4⟩ := trod_l Form.row (sz := 4) yU23r yS25r (fun n cs' y hn hh => by
      obtain ⟨f, a1, a2, _⟩ := ih n (by omega) cs' y hh
      exact ⟨f, a1, Form.row_len f, a2⟩) h4
    simp only [List.cons.injEq, and_true] at q4
    subst q4
    exact ⟨.mk kind name n scopes kids, by rw [Form.row_mk]; exact cells_app e0 rfl (cells_app e1 rfl (cells_app e2 rfl (cells_cons e3 (cells_cons e4 (cells_nil))))), by rw [Form.row_mk]; exact okL_cons o0 (okL_cons o1 (okL_cons o2 (okL_cons o3 (okL_cons o4 (okL_nil))))), rfl⟩
end Go.Abs
end
