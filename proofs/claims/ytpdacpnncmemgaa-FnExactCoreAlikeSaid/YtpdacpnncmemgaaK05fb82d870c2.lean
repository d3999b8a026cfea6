/- A part of the proof: what the functions that the law calls answer, as pure values. -/
import Derived.Test.YtpdacpnncmemgaaK0b7006a29a35
import Derived.Test.YtpdacpnncmemgaaK53768f3aa238
import Derived.Test.YtpdacpnncmemgaaK5a1c7860cc1b
import Derived.Test.YtpdacpnncmemgaaK701be45637f6
import Derived.Test.YtpdacpnncmemgaaKa8740d5011c0
set_option linter.unusedSimpArgs false
set_option linter.unusedVariables false
section
namespace Go.Abs
open Go.Proofs
theorem FnExactCoreAlike_ac (a0 : Core) (a1 : Core) (o0 : T.okL a0.row) (o1 : T.okL a1.row) : AC Try.prog 8 [.ag (a0.row.map .t), .ag (a1.row.map .t)] noOb (.t (.sc (.bool true))) noOb := by
  obtain ⟨r, hr, rfl⟩ := FnExactCoreAlike_law a0 a1 (Core.fit_of a0 o0) (Core.fit_of a1 o1)
  obtain ⟨n, hn⟩ := hr.get
  rw [Core.row_eq a0]; rw [Core.row_eq a1];
  exact m_laws_FnExactCoreAlike_ok n _ _ _ hn
end Go.Abs
end
