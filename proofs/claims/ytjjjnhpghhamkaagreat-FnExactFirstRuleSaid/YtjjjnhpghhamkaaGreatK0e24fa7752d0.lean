/- A part of the proof: what the functions that the law calls answer, as pure values. -/
import Derived.Test.YtjjjnhpghhamkaaGreatK016b3f72c5dc
import Derived.Test.YtjjjnhpghhamkaaGreatK47fea1a30345
import Derived.Test.YtjjjnhpghhamkaaGreatK5211f8419701
import Derived.Test.YtjjjnhpghhamkaaGreatK578df86682a3
import Derived.Test.YtjjjnhpghhamkaaGreatK8a4b725e9f1a
set_option linter.unusedSimpArgs false
set_option linter.unusedVariables false
section
namespace Go.Abs
open Go.Proofs
theorem FnExactFirstRule_ac (a0 : List Bind) (a1 : List Rule) (a2 : List Form) (a3 : Form) (o0 : T.ok (.sl (a0.map Bind.row))) (o1 : T.ok (.sl (a1.map Rule.row))) (o2 : T.ok (.sl (a2.map Form.row))) (o3 : T.okL a3.row) : AC Tryz.prog 8 [.t (.sl (a0.map Bind.row)), .t (.sl (a1.map Rule.row)), .t (.sl (a2.map Form.row)), .ag (a3.row.map .t)] noOb (.t (.sc (.bool true))) noOb := by
  obtain ⟨r, hr, rfl⟩ := FnExactFirstRule_law a0 a1 a2 a3 (binds_fit o0).1 (binds_fit o0).2 (rules_fit o1).1 (rules_fit o1).2 (forms_fit o2).1 (forms_fit o2).2 (Form.fit_of a3 o3)
  obtain ⟨n, hn⟩ := hr.get
  rw [Form.row_eq a3];
  exact m_laws_FnExactFirstRule_ok n _ _ _ _ _ hn
end Go.Abs
end
