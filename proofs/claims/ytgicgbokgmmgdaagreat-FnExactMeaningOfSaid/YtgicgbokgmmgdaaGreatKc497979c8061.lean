/- A part of the proof: what the functions that the law calls answer, as pure values. -/
import Derived.Test.YtgicgbokgmmgdaaGreatK15a1e3f9049a
import Derived.Test.YtgicgbokgmmgdaaGreatK64ea14ca7074
import Derived.Test.YtgicgbokgmmgdaaGreatK7fc50e8ae639
import Derived.Test.YtgicgbokgmmgdaaGreatKbc0c853374cf
import Derived.Test.YtgicgbokgmmgdaaGreatKe4c9d3e4d8bd
set_option linter.unusedSimpArgs false
set_option linter.unusedVariables false
section
namespace Go.Abs
open Go.Proofs
theorem FnExactMeaningOf_ac (a0 : Expansion) (a1 : Form) (o0 : T.okL a0.row) (o1 : T.okL a1.row) : AC Tryz.prog 5 [.ag (a0.row.map .t), .ag (a1.row.map .t)] noOb (.t (.sc (.bool true))) noOb := by
  obtain ⟨r, hr, rfl⟩ := FnExactMeaningOf_law a0 a1 (Expansion.fit_of a0 o0) (Form.fit_of a1 o1)
  obtain ⟨n, hn⟩ := hr.get
  rw [Expansion.row_eq a0]; rw [Form.row_eq a1];
  exact m_laws_FnExactMeaningOf_ok n _ _ _ hn
end Go.Abs
end
