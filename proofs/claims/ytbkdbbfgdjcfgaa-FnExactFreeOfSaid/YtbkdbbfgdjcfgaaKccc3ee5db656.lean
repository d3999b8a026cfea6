/- A part of the proof: what the functions that the law calls answer, as pure values. -/
import Derived.Test.YtbkdbbfgdjcfgaaK1fc9453004e6
import Derived.Test.YtbkdbbfgdjcfgaaK76627616f1f5
import Derived.Test.YtbkdbbfgdjcfgaaK8f14c95ec573
import Derived.Test.YtbkdbbfgdjcfgaaK99278a978e87
import Derived.Test.YtbkdbbfgdjcfgaaKe1126cde00fe
set_option linter.unusedSimpArgs false
set_option linter.unusedVariables false
section
namespace Go.Abs
open Go.Proofs
theorem FnExactFreeOf_ac (a0 : Core) (o0 : T.okL a0.row) : AC Try.prog 3 [.ag (a0.row.map .t)] noOb (.t (.sc (.bool true))) noOb := by
  obtain ⟨r, hr, rfl⟩ := FnExactFreeOf_law a0 (Core.fit_of a0 o0)
  obtain ⟨n, hn⟩ := hr.get
  rw [Core.row_eq a0];
  exact m_laws_FnExactFreeOf_ok n _ _ hn
end Go.Abs
end
