/- A part of the proof: what the functions that the law calls answer, as pure values. -/
import Derived.Test.YtpdacpnncmemgaaK117e6fc33c49
import Derived.Test.YtpdacpnncmemgaaK63ed59f6d46d
import Derived.Test.YtpdacpnncmemgaaK799257fa9d62
import Derived.Test.YtpdacpnncmemgaaK89b03b688578
import Derived.Test.YtpdacpnncmemgaaKd87fbd7bd1bc
set_option linter.unusedSimpArgs false
set_option linter.unusedVariables false
section
namespace Go.Abs
open Go.Proofs
theorem FnExactCoreValid_ac (a0 : Core) (o0 : T.okL a0.row) : AC Try.prog 5 [.ag (a0.row.map .t)] noOb (.t (.sc (.bool true))) noOb := by
  obtain ⟨r, hr, rfl⟩ := FnExactCoreValid_law a0 (Core.fit_of a0 o0)
  obtain ⟨n, hn⟩ := hr.get
  rw [Core.row_eq a0];
  exact m_laws_FnExactCoreValid_ok n _ _ hn
end Go.Abs
end
