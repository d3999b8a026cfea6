/- A part of the proof: what the functions that the law calls answer, as pure values. -/
import Derived.Test.YtbkdbbfgdjcfgaaK69d18407424d
import Derived.Test.YtbkdbbfgdjcfgaaK6c17d494f247
import Derived.Test.YtbkdbbfgdjcfgaaKd2c61170aa15
import Derived.Test.YtbkdbbfgdjcfgaaKf62e645eb0d4
set_option linter.unusedSimpArgs false
set_option linter.unusedVariables false
section
namespace Go.Abs
open Go.Proofs
theorem FnExactHitForms_ac (a0 : Hit) (o0 : T.okL a0.row) : AC Try.prog 5 [.ag (a0.row.map .t)] noOb (.t (.sc (.bool true))) noOb := by
  obtain ⟨r, hr, rfl⟩ := FnExactHitForms_law a0 (Hit.fit_of a0 o0)
  obtain ⟨n, hn⟩ := hr.get
  rw [Hit.row_eq a0];
  exact m_laws_FnExactHitForms_ok n _ _ hn
end Go.Abs
end
