/- A part of the proof: what the functions that the law calls answer, as pure values. -/
import Derived.Test.YtcebadpiebamdaaK052b88cabbe0
import Derived.Test.YtcebadpiebamdaaK290206ec9314
import Derived.Test.YtcebadpiebamdaaK433bdd507a07
import Derived.Test.YtcebadpiebamdaaKdfe9070724d9
set_option linter.unusedSimpArgs false
set_option linter.unusedVariables false
section
namespace Go.Abs
open Go.Proofs
theorem FnExactPatternVars_ac (a0 : Form) (a1 : List Form) (o0 : T.okL a0.row) (o1 : T.ok (.sl (a1.map Form.row))) : AC Try.prog 3 [.ag (a0.row.map .t), .t (.sl (a1.map Form.row))] noOb (.t (.sc (.bool true))) noOb := by
  obtain ⟨r, hr, rfl⟩ := FnExactPatternVars_law a0 a1 (Form.fit_of a0 o0) (forms_fit o1).1 (forms_fit o1).2
  obtain ⟨n, hn⟩ := hr.get
  rw [Form.row_eq a0];
  exact m_laws_FnExactPatternVars_ok n _ _ _ hn
end Go.Abs
end
