/- The mirror's answer is the law's. -/
import Derived.Test.YtgicgbokgmmgdaaMirQ6
import Derived.Test.YtgicgbokgmmgdaaPureT
import Derived.Test.YtgicgbokgmmgdaaLawFit
set_option linter.unusedVariables false
set_option linter.unusedSimpArgs false
namespace Go.Abs
open Go.Proofs
theorem FnExactRuleValid_ac (a0 : Rule) (a1 : List Form) (o0 : T.okL a0.row) (o1 : T.ok (.sl (a1.map Form.row))) : AC Try.prog 4 [.ag (a0.row.map .t), .t (.sl (a1.map Form.row))] noOb (.t (.sc (.bool true))) noOb := by
  obtain ⟨r, hr, rfl⟩ := FnExactRuleValid_law a0 a1 (Rule.fit_of a0 o0).1 (Rule.fit_of a0 o0).2 (forms_fit o1).1 (forms_fit o1).2
  obtain ⟨n, hn⟩ := hr.get
  rw [Rule.row_eq a0];
  exact m_laws_FnExactRuleValid_ok n _ _ _ hn
end Go.Abs
