/- A part of the proof: what the functions that the law calls answer, as pure values. -/
import Derived.KernelRfl
import Derived.Test.YtjjjnhpghhamkaaGreatK43a7deb4e5f2
import Derived.Test.YtjjjnhpghhamkaaGreatK47fea1a30345
import Derived.Test.YtjjjnhpghhamkaaGreatProg
set_option linter.unusedSimpArgs false
set_option linter.unusedVariables false
section
set_option linter.unusedSimpArgs false
set_option maxHeartbeats 4000000
set_option linter.unusedVariables false
namespace Go.Abs
open Go.Proofs
theorem yF54_0r : fldOf Tryz.prog 54 0 = some (0, 3) := by kernel_rfl
theorem yS54r : szOf Tryz.prog 54 = some 5 := by kernel_rfl
theorem yS3r : szOf Tryz.prog 3 = some 1 := by kernel_rfl
theorem yF54_1r : fldOf Tryz.prog 54 1 = some (1, 9) := by kernel_rfl
theorem yS9r : szOf Tryz.prog 9 = some 1 := by kernel_rfl
theorem yF54_2r : fldOf Tryz.prog 54 2 = some (2, 3) := by kernel_rfl
theorem yF54_3r : fldOf Tryz.prog 54 3 = some (3, 24) := by kernel_rfl
theorem yS24r : szOf Tryz.prog 24 = some 1 := by kernel_rfl
theorem yF54_4r : fldOf Tryz.prog 54 4 = some (4, 52) := by kernel_rfl
theorem yS52r : szOf Tryz.prog 52 = some 1 := by kernel_rfl
theorem yU3r : Tryz.prog.underlying 3 = some (.int .i64) := by kernel_rfl
theorem yU9r : Tryz.prog.underlying 9 = some .string := by kernel_rfl
theorem yU24r : Tryz.prog.underlying 24 = some (.slice 3) := by kernel_rfl
theorem yU52r : Tryz.prog.underlying 52 = some (.slice 54) := by kernel_rfl
theorem yF122_0r : fldOf Tryz.prog 122 0 = some (0, 54) := by kernel_rfl
theorem yS122r : szOf Tryz.prog 122 = some 10 := by kernel_rfl
theorem yF122_1r : fldOf Tryz.prog 122 1 = some (5, 54) := by kernel_rfl
theorem yF119_0r : fldOf Tryz.prog 119 0 = some (0, 9) := by kernel_rfl
theorem yS119r : szOf Tryz.prog 119 = some 3 := by kernel_rfl
theorem yF119_1r : fldOf Tryz.prog 119 1 = some (1, 24) := by kernel_rfl
theorem yF119_2r : fldOf Tryz.prog 119 2 = some (2, 3) := by kernel_rfl
theorem read_Form {H : Type} {enc : TypeId × Value → H} {w : World} {base : Nat} {spare : Nat → Bool} {held : Bool} : ∀ (fuel : Nat) (cs : List Value) (x : DataW H × List MemPlace), DataW.trod enc Tryz.prog w base spare held fuel 54 cs = some x → ∃ f : Form, T.Cells (G0 w) f.row cs ∧ T.okL f.row ∧ cs.length = 5 := by
  intro fuel
  induction fuel using Nat.strongRecOn with | _ fuel ih => ?_
  intro cs x h
  have hl := trod_len yF54_0r yS54r h
  obtain ⟨n0, y0, hn0, h0⟩ := trod_field yF54_0r yS3r h
  obtain ⟨n1, y1, hn1, h1⟩ := trod_field yF54_1r yS9r h
  obtain ⟨n2, y2, hn2, h2⟩ := trod_field yF54_2r yS3r h
  obtain ⟨n3, y3, hn3, h3⟩ := trod_field yF54_3r yS24r h
  obtain ⟨n4, y4, hn4, h4⟩ := trod_field yF54_4r yS52r h
  match cs, hl with
  | [c0, c1, c2, c3, c4], _ =>
    simp only [List.take_succ_cons, List.take_zero, List.drop_succ_cons, List.drop_zero, List.take_nil, List.drop_nil] at h0 h1 h2 h3 h4
    obtain ⟨kind, e0, o0, _⟩ := trod_i yU3r h0
    obtain ⟨name, e1, o1, _⟩ := trod_s yU9r h1
    obtain ⟨n, e2, o2, _⟩ := trod_i yU3r h2
    obtain ⟨scopes, z3, q3, e3, o3⟩ := trod_is yU24r yU3r yS3r h3
    simp only [List.cons.injEq, and_true] at q3
    subst q3
    obtain ⟨kids, z4, q4, e4, o4⟩ := trod_l Form.row (sz := 4) yU52r yS54r (fun n cs' y hn hh => by
      obtain ⟨f, a1, a2, _⟩ := ih n (by omega) cs' y hh
      exact ⟨f, a1, Form.row_len f, a2⟩) h4
    simp only [List.cons.injEq, and_true] at q4
    subst q4
    exact ⟨.mk kind name n scopes kids, by rw [Form.row_mk]; exact cells_app e0 rfl (cells_app e1 rfl (cells_app e2 rfl (cells_cons e3 (cells_cons e4 (cells_nil))))), by rw [Form.row_mk]; exact okL_cons o0 (okL_cons o1 (okL_cons o2 (okL_cons o3 (okL_cons o4 (okL_nil))))), rfl⟩
theorem read_Rule {H : Type} {enc : TypeId × Value → H} {w : World} {base : Nat} {spare : Nat → Bool} {held : Bool} : ∀ (fuel : Nat) (cs : List Value) (x : DataW H × List MemPlace), DataW.trod enc Tryz.prog w base spare held fuel 122 cs = some x → ∃ f : Rule, T.Cells (G0 w) f.row cs ∧ T.okL f.row ∧ cs.length = 10 := by
  intro fuel
  skip
  intro cs x h
  have hl := trod_len yF122_0r yS122r h
  obtain ⟨n0, y0, hn0, h0⟩ := trod_field yF122_0r yS54r h
  obtain ⟨n1, y1, hn1, h1⟩ := trod_field yF122_1r yS54r h
  match cs, hl with
  | [c0, c1, c2, c3, c4, c5, c6, c7, c8, c9], _ =>
    simp only [List.take_succ_cons, List.take_zero, List.drop_succ_cons, List.drop_zero, List.take_nil, List.drop_nil] at h0 h1
    obtain ⟨pattern, e0, o0, _⟩ := read_Form _ _ _ h0
    obtain ⟨pattern_kind, pattern_name, pattern_n, pattern_scopes, pattern_kids⟩ := pattern
    rw [Form.row_mk] at e0 o0
    obtain ⟨template, e1, o1, _⟩ := read_Form _ _ _ h1
    obtain ⟨template_kind, template_name, template_n, template_scopes, template_kids⟩ := template
    rw [Form.row_mk] at e1 o1
    exact ⟨.mk (Form.mk pattern_kind pattern_name pattern_n pattern_scopes pattern_kids) (Form.mk template_kind template_name template_n template_scopes template_kids), by rw [Rule.row_mk]; exact cells_app e0 rfl (cells_app e1 rfl (cells_nil)), by rw [Rule.row_mk]; exact okL_app o0 (okL_app o1 (okL_nil)), rfl⟩
theorem read_Bind {H : Type} {enc : TypeId × Value → H} {w : World} {base : Nat} {spare : Nat → Bool} {held : Bool} : ∀ (fuel : Nat) (cs : List Value) (x : DataW H × List MemPlace), DataW.trod enc Tryz.prog w base spare held fuel 119 cs = some x → ∃ f : Bind, T.Cells (G0 w) f.row cs ∧ T.okL f.row ∧ cs.length = 3 := by
  intro fuel
  skip
  intro cs x h
  have hl := trod_len yF119_0r yS119r h
  obtain ⟨n0, y0, hn0, h0⟩ := trod_field yF119_0r yS9r h
  obtain ⟨n1, y1, hn1, h1⟩ := trod_field yF119_1r yS24r h
  obtain ⟨n2, y2, hn2, h2⟩ := trod_field yF119_2r yS3r h
  match cs, hl with
  | [c0, c1, c2], _ =>
    simp only [List.take_succ_cons, List.take_zero, List.drop_succ_cons, List.drop_zero, List.take_nil, List.drop_nil] at h0 h1 h2
    obtain ⟨name, e0, o0, _⟩ := trod_s yU9r h0
    obtain ⟨scopes, z1, q1, e1, o1⟩ := trod_is yU24r yU3r yS3r h1
    simp only [List.cons.injEq, and_true] at q1
    subst q1
    obtain ⟨id, e2, o2, _⟩ := trod_i yU3r h2
    exact ⟨.mk name scopes id, by rw [Bind.row_mk]; exact cells_app e0 rfl (cells_cons e1 (cells_app e2 rfl (cells_nil))), by rw [Bind.row_mk]; exact okL_cons o0 (okL_cons o1 (okL_cons o2 (okL_nil))), rfl⟩
end Go.Abs
end
