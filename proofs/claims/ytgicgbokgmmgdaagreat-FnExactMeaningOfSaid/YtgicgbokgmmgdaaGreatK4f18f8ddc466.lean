/- A part of the proof: what the functions that the law calls answer, as pure values. -/
import Derived.KernelRfl
import Derived.Test.YtgicgbokgmmgdaaGreatK64ea14ca7074
import Derived.Test.YtgicgbokgmmgdaaGreatKe88e8e699e7e
import Derived.Test.YtgicgbokgmmgdaaGreatProg
set_option linter.unusedSimpArgs false
set_option linter.unusedVariables false
section
set_option linter.unusedSimpArgs false
set_option maxHeartbeats 4000000
set_option linter.unusedVariables false
namespace Go.Abs
open Go.Proofs
theorem yF55_0r : fldOf Tryz.prog 55 0 = some (0, 3) := by kernel_rfl
theorem yS55r : szOf Tryz.prog 55 = some 5 := by kernel_rfl
theorem yS3r : szOf Tryz.prog 3 = some 1 := by kernel_rfl
theorem yF55_1r : fldOf Tryz.prog 55 1 = some (1, 9) := by kernel_rfl
theorem yS9r : szOf Tryz.prog 9 = some 1 := by kernel_rfl
theorem yF55_2r : fldOf Tryz.prog 55 2 = some (2, 3) := by kernel_rfl
theorem yF55_3r : fldOf Tryz.prog 55 3 = some (3, 36) := by kernel_rfl
theorem yS36r : szOf Tryz.prog 36 = some 1 := by kernel_rfl
theorem yF55_4r : fldOf Tryz.prog 55 4 = some (4, 53) := by kernel_rfl
theorem yS53r : szOf Tryz.prog 53 = some 1 := by kernel_rfl
theorem yU3r : Tryz.prog.underlying 3 = some (.int .i64) := by kernel_rfl
theorem yU9r : Tryz.prog.underlying 9 = some .string := by kernel_rfl
theorem yU36r : Tryz.prog.underlying 36 = some (.slice 3) := by kernel_rfl
theorem yU53r : Tryz.prog.underlying 53 = some (.slice 55) := by kernel_rfl
theorem yF168_0r : fldOf Tryz.prog 168 0 = some (0, 55) := by kernel_rfl
theorem yS168r : szOf Tryz.prog 168 = some 10 := by kernel_rfl
theorem yF168_1r : fldOf Tryz.prog 168 1 = some (5, 55) := by kernel_rfl
theorem yF95_0r : fldOf Tryz.prog 95 0 = some (0, 9) := by kernel_rfl
theorem yS95r : szOf Tryz.prog 95 = some 3 := by kernel_rfl
theorem yF95_1r : fldOf Tryz.prog 95 1 = some (1, 36) := by kernel_rfl
theorem yF95_2r : fldOf Tryz.prog 95 2 = some (2, 3) := by kernel_rfl
theorem yF99_0r : fldOf Tryz.prog 99 0 = some (0, 3) := by kernel_rfl
theorem yS99r : szOf Tryz.prog 99 = some 3 := by kernel_rfl
theorem yF99_1r : fldOf Tryz.prog 99 1 = some (1, 53) := by kernel_rfl
theorem yF99_2r : fldOf Tryz.prog 99 2 = some (2, 97) := by kernel_rfl
theorem yS97r : szOf Tryz.prog 97 = some 1 := by kernel_rfl
theorem yU97r : Tryz.prog.underlying 97 = some (.slice 168) := by kernel_rfl
theorem yF25_0r : fldOf Tryz.prog 25 0 = some (0, 22) := by kernel_rfl
theorem yS25r : szOf Tryz.prog 25 = some 5 := by kernel_rfl
theorem yS22r : szOf Tryz.prog 22 = some 1 := by kernel_rfl
theorem yF25_1r : fldOf Tryz.prog 25 1 = some (1, 23) := by kernel_rfl
theorem yS23r : szOf Tryz.prog 23 = some 1 := by kernel_rfl
theorem yF25_2r : fldOf Tryz.prog 25 2 = some (2, 3) := by kernel_rfl
theorem yF25_3r : fldOf Tryz.prog 25 3 = some (3, 3) := by kernel_rfl
theorem yF25_4r : fldOf Tryz.prog 25 4 = some (4, 3) := by kernel_rfl
theorem yU22r : Tryz.prog.underlying 22 = some (.slice 95) := by kernel_rfl
theorem yU23r : Tryz.prog.underlying 23 = some (.slice 99) := by kernel_rfl
theorem read_Form {H : Type} {enc : TypeId × Value → H} {w : World} {base : Nat} {spare : Nat → Bool} {held : Bool} : ∀ (fuel : Nat) (cs : List Value) (x : DataW H × List MemPlace), DataW.trod enc Tryz.prog w base spare held fuel 55 cs = some x → ∃ f : Form, T.Cells (G0 w) f.row cs ∧ T.okL f.row ∧ cs.length = 5 := by
  intro fuel
  induction fuel using Nat.strongRecOn with | _ fuel ih => ?_
  intro cs x h
  have hl := trod_len yF55_0r yS55r h
  obtain ⟨n0, y0, hn0, h0⟩ := trod_field yF55_0r yS3r h
  obtain ⟨n1, y1, hn1, h1⟩ := trod_field yF55_1r yS9r h
  obtain ⟨n2, y2, hn2, h2⟩ := trod_field yF55_2r yS3r h
  obtain ⟨n3, y3, hn3, h3⟩ := trod_field yF55_3r yS36r h
  obtain ⟨n4, y4, hn4, h4⟩ := trod_field yF55_4r yS53r h
  match cs, hl with
  | [c0, c1, c2, c3, c4], _ =>
    simp only [List.take_succ_cons, List.take_zero, List.drop_succ_cons, List.drop_zero, List.take_nil, List.drop_nil] at h0 h1 h2 h3 h4
    obtain ⟨kind, e0, o0, _⟩ := trod_i yU3r h0
    obtain ⟨name, e1, o1, _⟩ := trod_s yU9r h1
    obtain ⟨n, e2, o2, _⟩ := trod_i yU3r h2
    obtain ⟨scopes, z3, q3, e3, o3⟩ := trod_is yU36r yU3r yS3r h3
    simp only [List.cons.injEq, and_true] at q3
    subst q3
    obtain ⟨kids, z4, q4, e4, o4⟩ := trod_l Form.row (sz := 4) yU53r yS55r (fun n cs' y hn hh => by
      obtain ⟨f, a1, a2, _⟩ := ih n (by omega) cs' y hh
      exact ⟨f, a1, Form.row_len f, a2⟩) h4
    simp only [List.cons.injEq, and_true] at q4
    subst q4
    exact ⟨.mk kind name n scopes kids, by rw [Form.row_mk]; exact cells_app e0 rfl (cells_app e1 rfl (cells_app e2 rfl (cells_cons e3 (cells_cons e4 (cells_nil))))), by rw [Form.row_mk]; exact okL_cons o0 (okL_cons o1 (okL_cons o2 (okL_cons o3 (okL_cons o4 (okL_nil))))), rfl⟩
theorem read_Rule {H : Type} {enc : TypeId × Value → H} {w : World} {base : Nat} {spare : Nat → Bool} {held : Bool} : ∀ (fuel : Nat) (cs : List Value) (x : DataW H × List MemPlace), DataW.trod enc Tryz.prog w base spare held fuel 168 cs = some x → ∃ f : Rule, T.Cells (G0 w) f.row cs ∧ T.okL f.row ∧ cs.length = 10 := by
  intro fuel
  skip
  intro cs x h
  have hl := trod_len yF168_0r yS168r h
  obtain ⟨n0, y0, hn0, h0⟩ := trod_field yF168_0r yS55r h
  obtain ⟨n1, y1, hn1, h1⟩ := trod_field yF168_1r yS55r h
  match cs, hl with
  | [c0, c1, c2, c3, c4, c5, c6, c7, c8, c9], _ =>
    simp only [List.take_succ_cons, List.take_zero, List.drop_succ_cons, List.drop_zero, List.take_nil, List.drop_nil] at h0 h1
    obtain ⟨pattern, e0, o0, _⟩ := read_Form _ _ _ h0
    obtain ⟨pattern_kind, pattern_name, pattern_n, pattern_scopes, pattern_kids⟩ := pattern
    rw [Form.row_mk] at e0 o0
    obtain ⟨template, e1, o1, _⟩ := read_Form _ _ _ h1
    obtain ⟨template_kind, template_name, template_n, template_scopes, template_kids⟩ := template
    rw [Form.row_mk] at e1 o1
    exact ⟨.mk (Form.mk pattern_kind pattern_name pattern_n pattern_scopes pattern_kids) (Form.mk template_kind template_name template_n template_scopes template_kids), by rw [Rule.row_mk]; exact cells_app e0 rfl (cells_app e1 rfl (cells_nil)), by rw [Rule.row_mk]; exact okL_app o0 (okL_app o1 (okL_nil)), rfl⟩
theorem read_Bind {H : Type} {enc : TypeId × Value → H} {w : World} {base : Nat} {spare : Nat → Bool} {held : Bool} : ∀ (fuel : Nat) (cs : List Value) (x : DataW H × List MemPlace), DataW.trod enc Tryz.prog w base spare held fuel 95 cs = some x → ∃ f : Bind, T.Cells (G0 w) f.row cs ∧ T.okL f.row ∧ cs.length = 3 := by
  intro fuel
  skip
  intro cs x h
  have hl := trod_len yF95_0r yS95r h
  obtain ⟨n0, y0, hn0, h0⟩ := trod_field yF95_0r yS9r h
  obtain ⟨n1, y1, hn1, h1⟩ := trod_field yF95_1r yS36r h
  obtain ⟨n2, y2, hn2, h2⟩ := trod_field yF95_2r yS3r h
  match cs, hl with
  | [c0, c1, c2], _ =>
    simp only [List.take_succ_cons, List.take_zero, List.drop_succ_cons, List.drop_zero, List.take_nil, List.drop_nil] at h0 h1 h2
    obtain ⟨name, e0, o0, _⟩ := trod_s yU9r h0
    obtain ⟨scopes, z1, q1, e1, o1⟩ := trod_is yU36r yU3r yS3r h1
    simp only [List.cons.injEq, and_true] at q1
    subst q1
    obtain ⟨id, e2, o2, _⟩ := trod_i yU3r h2
    exact ⟨.mk name scopes id, by rw [Bind.row_mk]; exact cells_app e0 rfl (cells_cons e1 (cells_app e2 rfl (cells_nil))), by rw [Bind.row_mk]; exact okL_cons o0 (okL_cons o1 (okL_cons o2 (okL_nil))), rfl⟩
theorem read_Macro {H : Type} {enc : TypeId × Value → H} {w : World} {base : Nat} {spare : Nat → Bool} {held : Bool} : ∀ (fuel : Nat) (cs : List Value) (x : DataW H × List MemPlace), DataW.trod enc Tryz.prog w base spare held fuel 99 cs = some x → ∃ f : Macro, T.Cells (G0 w) f.row cs ∧ T.okL f.row ∧ cs.length = 3 := by
  intro fuel
  skip
  intro cs x h
  have hl := trod_len yF99_0r yS99r h
  obtain ⟨n0, y0, hn0, h0⟩ := trod_field yF99_0r yS3r h
  obtain ⟨n1, y1, hn1, h1⟩ := trod_field yF99_1r yS53r h
  obtain ⟨n2, y2, hn2, h2⟩ := trod_field yF99_2r yS97r h
  match cs, hl with
  | [c0, c1, c2], _ =>
    simp only [List.take_succ_cons, List.take_zero, List.drop_succ_cons, List.drop_zero, List.take_nil, List.drop_nil] at h0 h1 h2
    obtain ⟨id, e0, o0, _⟩ := trod_i yU3r h0
    obtain ⟨literals, z1, q1, e1, o1⟩ := trod_l Form.row (sz := 4) yU53r yS55r (fun n cs' y hn hh => by
      obtain ⟨f, a1, a2, _⟩ := read_Form n cs' y hh
      exact ⟨f, a1, Form.row_len f, a2⟩) h1
    simp only [List.cons.injEq, and_true] at q1
    subst q1
    obtain ⟨rules, z2, q2, e2, o2⟩ := trod_l Rule.row (sz := 9) yU97r yS168r (fun n cs' y hn hh => by
      obtain ⟨f, a1, a2, _⟩ := read_Rule n cs' y hh
      exact ⟨f, a1, Rule.row_len f, a2⟩) h2
    simp only [List.cons.injEq, and_true] at q2
    subst q2
    exact ⟨.mk id literals rules, by rw [Macro.row_mk]; exact cells_app e0 rfl (cells_cons e1 (cells_cons e2 (cells_nil))), by rw [Macro.row_mk]; exact okL_cons o0 (okL_cons o1 (okL_cons o2 (okL_nil))), rfl⟩
theorem read_Expansion {H : Type} {enc : TypeId × Value → H} {w : World} {base : Nat} {spare : Nat → Bool} {held : Bool} : ∀ (fuel : Nat) (cs : List Value) (x : DataW H × List MemPlace), DataW.trod enc Tryz.prog w base spare held fuel 25 cs = some x → ∃ f : Expansion, T.Cells (G0 w) f.row cs ∧ T.okL f.row ∧ cs.length = 5 := by
  intro fuel
  skip
  intro cs x h
  have hl := trod_len yF25_0r yS25r h
  obtain ⟨n0, y0, hn0, h0⟩ := trod_field yF25_0r yS22r h
  obtain ⟨n1, y1, hn1, h1⟩ := trod_field yF25_1r yS23r h
  obtain ⟨n2, y2, hn2, h2⟩ := trod_field yF25_2r yS3r h
  obtain ⟨n3, y3, hn3, h3⟩ := trod_field yF25_3r yS3r h
  obtain ⟨n4, y4, hn4, h4⟩ := trod_field yF25_4r yS3r h
  match cs, hl with
  | [c0, c1, c2, c3, c4], _ =>
    simp only [List.take_succ_cons, List.take_zero, List.drop_succ_cons, List.drop_zero, List.take_nil, List.drop_nil] at h0 h1 h2 h3 h4
    obtain ⟨binds, z0, q0, e0, o0⟩ := trod_l Bind.row (sz := 2) yU22r yS95r (fun n cs' y hn hh => by
      obtain ⟨f, a1, a2, _⟩ := read_Bind n cs' y hh
      exact ⟨f, a1, Bind.row_len f, a2⟩) h0
    simp only [List.cons.injEq, and_true] at q0
    subst q0
    obtain ⟨macros, z1, q1, e1, o1⟩ := trod_l Macro.row (sz := 2) yU23r yS99r (fun n cs' y hn hh => by
      obtain ⟨f, a1, a2, _⟩ := read_Macro n cs' y hh
      exact ⟨f, a1, Macro.row_len f, a2⟩) h1
    simp only [List.cons.injEq, and_true] at q1
    subst q1
    obtain ⟨scope, e2, o2, _⟩ := trod_i yU3r h2
    obtain ⟨id, e3, o3, _⟩ := trod_i yU3r h3
    obtain ⟨steps, e4, o4, _⟩ := trod_i yU3r h4
    exact ⟨.mk binds macros scope id steps, by rw [Expansion.row_mk]; exact cells_cons e0 (cells_cons e1 (cells_app e2 rfl (cells_app e3 rfl (cells_app e4 rfl (cells_nil))))), by rw [Expansion.row_mk]; exact okL_cons o0 (okL_cons o1 (okL_cons o2 (okL_cons o3 (okL_cons o4 (okL_nil))))), rfl⟩
end Go.Abs
end
