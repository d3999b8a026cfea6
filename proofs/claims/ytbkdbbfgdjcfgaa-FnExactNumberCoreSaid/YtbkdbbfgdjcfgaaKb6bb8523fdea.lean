/- A part of the proof: what the functions that the law calls answer, as pure values. -/
import Derived.Test.YtbkdbbfgdjcfgaaK0164225ce706
import Derived.Test.YtbkdbbfgdjcfgaaK6acd1b830261
import Derived.Test.YtbkdbbfgdjcfgaaK8a0633f01ccf
import Derived.Test.YtbkdbbfgdjcfgaaKdba459f4df05
import Derived.Test.YtbkdbbfgdjcfgaaKfbb3a73031af
set_option linter.unusedSimpArgs false
set_option linter.unusedVariables false
section
namespace Go.Abs
open Go.Proofs
theorem FnExactNumberCore_ac (a0 : Core) (o0 : T.okL a0.row) : AC Try.prog 8 [.ag (a0.row.map .t)] noOb (.t (.sc (.bool true))) noOb := by
  obtain ⟨r, hr, rfl⟩ := FnExactNumberCore_law a0 (Core.fit_of a0 o0)
  obtain ⟨n, hn⟩ := hr.get
  rw [Core.row_eq a0];
  exact m_laws_FnExactNumberCore_ok n _ _ hn
end Go.Abs
end
