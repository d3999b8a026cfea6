/- The mirror's answer is the law's. -/
import Derived.Test.YtgicgbokgmmgdaaMirE5
import Derived.Test.YtgicgbokgmmgdaaPureT
import Derived.Test.YtgicgbokgmmgdaaLawFit
set_option linter.unusedVariables false
set_option linter.unusedSimpArgs false
namespace Go.Abs
open Go.Proofs
theorem FnExactTemplateValid_ac (a0 : Form) (a1 : List Hit) (o0 : T.okL a0.row) (o1 : T.ok (.sl (a1.map Hit.row))) : AC Try.prog 3 [.ag (a0.row.map .t), .t (.sl (a1.map Hit.row))] noOb (.t (.sc (.bool true))) noOb := by
  obtain ⟨r, hr, rfl⟩ := FnExactTemplateValid_law a0 a1 (Form.fit_of a0 o0) (hits_fit o1).1 (hits_fit o1).2
  obtain ⟨n, hn⟩ := hr.get
  rw [Form.row_eq a0];
  exact m_laws_FnExactTemplateValid_ok n _ _ _ hn
end Go.Abs
