/- A part of the proof: what the functions that the law calls answer, as pure values. -/
import Derived.Test.YtbkdbbfgdjcfgaaK869047bd972f
import Derived.Test.YtbkdbbfgdjcfgaaK88141cc32238
import Derived.Test.YtbkdbbfgdjcfgaaKbf0e433deac6
import Derived.Test.YtbkdbbfgdjcfgaaKd07653bca40a
import Derived.Test.YtbkdbbfgdjcfgaaKf2372ed9888b
set_option linter.unusedSimpArgs false
set_option linter.unusedVariables false
section
namespace Go.Abs
open Go.Proofs
theorem FnExactDeadRules_ac (a0 : List Rule) (a1 : List Form) (o0 : T.ok (.sl (a0.map Rule.row))) (o1 : T.ok (.sl (a1.map Form.row))) : AC Try.prog 4 [.t (.sl (a0.map Rule.row)), .t (.sl (a1.map Form.row))] noOb (.t (.sc (.bool true))) noOb := by
  obtain ⟨r, hr, rfl⟩ := FnExactDeadRules_law a0 a1 (rules_fit o0).1 (rules_fit o0).2 (forms_fit o1).1 (forms_fit o1).2
  obtain ⟨n, hn⟩ := hr.get
  exact m_laws_FnExactDeadRules_ok n _ _ _ hn
end Go.Abs
end
