/- A part of the proof: what the functions that the law calls answer, as pure values. -/
import Derived.Test.YtbkdbbfgdjcfgaaK3408afd1033f
import Derived.Test.YtbkdbbfgdjcfgaaK85463839458b
import Derived.Test.YtbkdbbfgdjcfgaaK96cd8f24d73b
import Derived.Test.YtbkdbbfgdjcfgaaKcd9711266584
set_option linter.unusedSimpArgs false
set_option linter.unusedVariables false
section
namespace Go.Abs
open Go.Proofs
theorem FnExactParseRules_ac (a0 : Form) (o0 : T.okL a0.row) : AC Try.prog 9 [.ag (a0.row.map .t)] noOb (.t (.sc (.bool true))) noOb := by
  obtain ⟨r, hr, rfl⟩ := FnExactParseRules_law a0 (Form.fit_of a0 o0)
  obtain ⟨n, hn⟩ := hr.get
  rw [Form.row_eq a0];
  exact m_laws_FnExactParseRules_ok n _ _ hn
end Go.Abs
end
