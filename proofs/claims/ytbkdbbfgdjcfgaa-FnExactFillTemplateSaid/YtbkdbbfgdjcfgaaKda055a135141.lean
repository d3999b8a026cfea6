/- A part of the proof: what the functions that the law calls answer, as pure values. -/
import Derived.KernelRfl
import Derived.Test.YtbkdbbfgdjcfgaaK69e8a0ebd724
import Derived.Test.YtbkdbbfgdjcfgaaKe3dfd5d2a42d
import Derived.Test.YtbkdbbfgdjcfgaaProg
set_option linter.unusedSimpArgs false
set_option linter.unusedVariables false
section
set_option linter.unusedSimpArgs false
set_option maxHeartbeats 4000000
set_option linter.unusedVariables false
namespace Go.Abs
open Go.Proofs
theorem yF25_0r : fldOf Try.prog 25 0 = some (0, 3) := by kernel_rfl
theorem yS25r : szOf Try.prog 25 = some 5 := by kernel_rfl
theorem yS3r : szOf Try.prog 3 = some 1 := by kernel_rfl
theorem yF25_1r : fldOf Try.prog 25 1 = some (1, 9) := by kernel_rfl
theorem yS9r : szOf Try.prog 9 = some 1 := by kernel_rfl
theorem yF25_2r : fldOf Try.prog 25 2 = some (2, 3) := by kernel_rfl
theorem yF25_3r : fldOf Try.prog 25 3 = some (3, 22) := by kernel_rfl
theorem yS22r : szOf Try.prog 22 = some 1 := by kernel_rfl
theorem yF25_4r : fldOf Try.prog 25 4 = some (4, 23) := by kernel_rfl
theorem yS23r : szOf Try.prog 23 = some 1 := by kernel_rfl
theorem yU3r : Try.prog.underlying 3 = some (.int .i64) := by kernel_rfl
theorem yU9r : Try.prog.underlying 9 = some .string := by kernel_rfl
theorem yU22r : Try.prog.underlying 22 = some (.slice 3) := by kernel_rfl
theorem yU23r : Try.prog.underlying 23 = some (.slice 25) := by kernel_rfl
theorem yF60_0r : fldOf Try.prog 60 0 = some (0, 25) := by kernel_rfl
theorem yS60r : szOf Try.prog 60 = some 12 := by kernel_rfl
theorem yF60_1r : fldOf Try.prog 60 1 = some (5, 3) := by kernel_rfl
theorem yF60_2r : fldOf Try.prog 60 2 = some (6, 25) := by kernel_rfl
theorem yF60_3r : fldOf Try.prog 60 3 = some (11, 58) := by kernel_rfl
theorem yS58r : szOf Try.prog 58 = some 1 := by kernel_rfl
theorem yU58r : Try.prog.underlying 58 = some (.slice 60) := by kernel_rfl
theorem yF28_0r : fldOf Try.prog 28 0 = some (0, 3) := by kernel_rfl
theorem yS28r : szOf Try.prog 28 = some 11 := by kernel_rfl
theorem yF28_1r : fldOf Try.prog 28 1 = some (1, 3) := by kernel_rfl
theorem yF28_2r : fldOf Try.prog 28 2 = some (2, 9) := by kernel_rfl
theorem yF28_3r : fldOf Try.prog 28 3 = some (3, 3) := by kernel_rfl
theorem yF28_4r : fldOf Try.prog 28 4 = some (4, 22) := by kernel_rfl
theorem yF28_5r : fldOf Try.prog 28 5 = some (5, 25) := by kernel_rfl
theorem yF28_6r : fldOf Try.prog 28 6 = some (10, 26) := by kernel_rfl
theorem yS26r : szOf Try.prog 26 = some 1 := by kernel_rfl
theorem yU26r : Try.prog.underlying 26 = some (.slice 28) := by kernel_rfl
theorem yF101_0r : fldOf Try.prog 101 0 = some (0, 25) := by kernel_rfl
theorem yS101r : szOf Try.prog 101 = some 10 := by kernel_rfl
theorem yF101_1r : fldOf Try.prog 101 1 = some (5, 25) := by kernel_rfl
theorem read_Form {H : Type} {enc : TypeId × Value → H} {w : World} {base : Nat} {spare : Nat → Bool} {held : Bool} : ∀ (fuel : Nat) (cs : List Value) (x : DataW H × List MemPlace), DataW.trod enc Try.prog w base spare held fuel 25 cs = some x → ∃ f : Form, T.Cells (G0 w) f.row cs ∧ T.okL f.row ∧ cs.length = 5 := by
  intro fuel
  induction fuel using Nat.strongRecOn with | _ fuel ih => ?_
  intro cs x h
  have hl := trod_len yF25_0r yS25r h
  obtain ⟨n0, y0, hn0, h0⟩ := trod_field yF25_0r yS3r h
  obtain ⟨n1, y1, hn1, h1⟩ := trod_field yF25_1r yS9r h
  obtain ⟨n2, y2, hn2, h2⟩ := trod_field yF25_2r yS3r h
  obtain ⟨n3, y3, hn3, h3⟩ := trod_field yF25_3r yS22r h
  obtain ⟨n4, y4, hn4, h4⟩ := trod_field yF25_4r yS23r h
  match cs, hl with
  | [c0, c1, c2, c3, c4], _ =>
    simp only [List.take_succ_cons, List.take_zero, List.drop_succ_cons, List.drop_zero, List.take_nil, List.drop_nil] at h0 h1 h2 h3 h4
    obtain ⟨kind, e0, o0, _⟩ := trod_i yU3r h0
    obtain ⟨name, e1, o1, _⟩ := trod_s yU9r h1
    obtain ⟨n, e2, o2, _⟩ := trod_i yU3r h2
    obtain ⟨scopes, z3, q3, e3, o3⟩ := trod_is yU22r yU3r yS3r h3
    simp only [List.cons.injEq, and_true] at q3
    subst q3
    obtain ⟨kids, z4, q4, e4, o4⟩ := trod_l Form.row (sz := 4) yU23r yS25r (fun n cs' y hn hh => by
      obtain ⟨f, a1, a2, _⟩ := ih n (by omega) cs' y hh
      exact ⟨f, a1, Form.row_len f, a2⟩) h4
    simp only [List.cons.injEq, and_true] at q4
    subst q4
    exact ⟨.mk kind name n scopes kids, by rw [Form.row_mk]; exact cells_app e0 rfl (cells_app e1 rfl (cells_app e2 rfl (cells_cons e3 (cells_cons e4 (cells_nil))))), by rw [Form.row_mk]; exact okL_cons o0 (okL_cons o1 (okL_cons o2 (okL_cons o3 (okL_cons o4 (okL_nil))))), rfl⟩
theorem read_Hit {H : Type} {enc : TypeId × Value → H} {w : World} {base : Nat} {spare : Nat → Bool} {held : Bool} : ∀ (fuel : Nat) (cs : List Value) (x : DataW H × List MemPlace), DataW.trod enc Try.prog w base spare held fuel 60 cs = some x → ∃ f : Hit, T.Cells (G0 w) f.row cs ∧ T.okL f.row ∧ cs.length = 12 := by
  intro fuel
  induction fuel using Nat.strongRecOn with | _ fuel ih => ?_
  intro cs x h
  have hl := trod_len yF60_0r yS60r h
  obtain ⟨n0, y0, hn0, h0⟩ := trod_field yF60_0r yS25r h
  obtain ⟨n1, y1, hn1, h1⟩ := trod_field yF60_1r yS3r h
  obtain ⟨n2, y2, hn2, h2⟩ := trod_field yF60_2r yS25r h
  obtain ⟨n3, y3, hn3, h3⟩ := trod_field yF60_3r yS58r h
  match cs, hl with
  | [c0, c1, c2, c3, c4, c5, c6, c7, c8, c9, c10, c11], _ =>
    simp only [List.take_succ_cons, List.take_zero, List.drop_succ_cons, List.drop_zero, List.take_nil, List.drop_nil] at h0 h1 h2 h3
    obtain ⟨name, e0, o0, _⟩ := read_Form _ _ _ h0
    obtain ⟨name_kind, name_name, name_n, name_scopes, name_kids⟩ := name
    rw [Form.row_mk] at e0 o0
    obtain ⟨depth, e1, o1, _⟩ := trod_i yU3r h1
    obtain ⟨one, e2, o2, _⟩ := read_Form _ _ _ h2
    obtain ⟨one_kind, one_name, one_n, one_scopes, one_kids⟩ := one
    rw [Form.row_mk] at e2 o2
    obtain ⟨many, z3, q3, e3, o3⟩ := trod_l Hit.row (sz := 11) yU58r yS60r (fun n cs' y hn hh => by
      obtain ⟨f, a1, a2, _⟩ := ih n (by omega) cs' y hh
      exact ⟨f, a1, Hit.row_len f, a2⟩) h3
    simp only [List.cons.injEq, and_true] at q3
    subst q3
    exact ⟨.mk (Form.mk name_kind name_name name_n name_scopes name_kids) depth (Form.mk one_kind one_name one_n one_scopes one_kids) many, by rw [Hit.row_mk]; exact cells_app e0 rfl (cells_app e1 rfl (cells_app e2 rfl (cells_cons e3 (cells_nil)))), by rw [Hit.row_mk]; exact okL_app o0 (okL_cons o1 (okL_app o2 (okL_cons o3 (okL_nil)))), rfl⟩
theorem read_Core {H : Type} {enc : TypeId × Value → H} {w : World} {base : Nat} {spare : Nat → Bool} {held : Bool} : ∀ (fuel : Nat) (cs : List Value) (x : DataW H × List MemPlace), DataW.trod enc Try.prog w base spare held fuel 28 cs = some x → ∃ f : Core, T.Cells (G0 w) f.row cs ∧ T.okL f.row ∧ cs.length = 11 := by
  intro fuel
  induction fuel using Nat.strongRecOn with | _ fuel ih => ?_
  intro cs x h
  have hl := trod_len yF28_0r yS28r h
  obtain ⟨n0, y0, hn0, h0⟩ := trod_field yF28_0r yS3r h
  obtain ⟨n1, y1, hn1, h1⟩ := trod_field yF28_1r yS3r h
  obtain ⟨n2, y2, hn2, h2⟩ := trod_field yF28_2r yS9r h
  obtain ⟨n3, y3, hn3, h3⟩ := trod_field yF28_3r yS3r h
  obtain ⟨n4, y4, hn4, h4⟩ := trod_field yF28_4r yS22r h
  obtain ⟨n5, y5, hn5, h5⟩ := trod_field yF28_5r yS25r h
  obtain ⟨n6, y6, hn6, h6⟩ := trod_field yF28_6r yS26r h
  match cs, hl with
  | [c0, c1, c2, c3, c4, c5, c6, c7, c8, c9, c10], _ =>
    simp only [List.take_succ_cons, List.take_zero, List.drop_succ_cons, List.drop_zero, List.take_nil, List.drop_nil] at h0 h1 h2 h3 h4 h5 h6
    obtain ⟨kind, e0, o0, _⟩ := trod_i yU3r h0
    obtain ⟨id, e1, o1, _⟩ := trod_i yU3r h1
    obtain ⟨name, e2, o2, _⟩ := trod_s yU9r h2
    obtain ⟨n, e3, o3, _⟩ := trod_i yU3r h3
    obtain ⟨ids, z4, q4, e4, o4⟩ := trod_is yU22r yU3r yS3r h4
    simp only [List.cons.injEq, and_true] at q4
    subst q4
    obtain ⟨data, e5, o5, _⟩ := read_Form _ _ _ h5
    obtain ⟨data_kind, data_name, data_n, data_scopes, data_kids⟩ := data
    rw [Form.row_mk] at e5 o5
    obtain ⟨kids, z6, q6, e6, o6⟩ := trod_l Core.row (sz := 10) yU26r yS28r (fun n cs' y hn hh => by
      obtain ⟨f, a1, a2, _⟩ := ih n (by omega) cs' y hh
      exact ⟨f, a1, Core.row_len f, a2⟩) h6
    simp only [List.cons.injEq, and_true] at q6
    subst q6
    exact ⟨.mk kind id name n ids (Form.mk data_kind data_name data_n data_scopes data_kids) kids, by rw [Core.row_mk]; exact cells_app e0 rfl (cells_app e1 rfl (cells_app e2 rfl (cells_app e3 rfl (cells_cons e4 (cells_app e5 rfl (cells_cons e6 (cells_nil))))))), by rw [Core.row_mk]; exact okL_cons o0 (okL_cons o1 (okL_cons o2 (okL_cons o3 (okL_cons o4 (okL_app o5 (okL_cons o6 (okL_nil))))))), rfl⟩
theorem read_Rule {H : Type} {enc : TypeId × Value → H} {w : World} {base : Nat} {spare : Nat → Bool} {held : Bool} : ∀ (fuel : Nat) (cs : List Value) (x : DataW H × List MemPlace), DataW.trod enc Try.prog w base spare held fuel 101 cs = some x → ∃ f : Rule, T.Cells (G0 w) f.row cs ∧ T.okL f.row ∧ cs.length = 10 := by
  intro fuel
  skip
  intro cs x h
  have hl := trod_len yF101_0r yS101r h
  obtain ⟨n0, y0, hn0, h0⟩ := trod_field yF101_0r yS25r h
  obtain ⟨n1, y1, hn1, h1⟩ := trod_field yF101_1r yS25r h
  match cs, hl with
  | [c0, c1, c2, c3, c4, c5, c6, c7, c8, c9], _ =>
    simp only [List.take_succ_cons, List.take_zero, List.drop_succ_cons, List.drop_zero, List.take_nil, List.drop_nil] at h0 h1
    obtain ⟨pattern, e0, o0, _⟩ := read_Form _ _ _ h0
    obtain ⟨pattern_kind, pattern_name, pattern_n, pattern_scopes, pattern_kids⟩ := pattern
    rw [Form.row_mk] at e0 o0
    obtain ⟨template, e1, o1, _⟩ := read_Form _ _ _ h1
    obtain ⟨template_kind, template_name, template_n, template_scopes, template_kids⟩ := template
    rw [Form.row_mk] at e1 o1
    exact ⟨.mk (Form.mk pattern_kind pattern_name pattern_n pattern_scopes pattern_kids) (Form.mk template_kind template_name template_n template_scopes template_kids), by rw [Rule.row_mk]; exact cells_app e0 rfl (cells_app e1 rfl (cells_nil)), by rw [Rule.row_mk]; exact okL_app o0 (okL_app o1 (okL_nil)), rfl⟩
end Go.Abs
end
