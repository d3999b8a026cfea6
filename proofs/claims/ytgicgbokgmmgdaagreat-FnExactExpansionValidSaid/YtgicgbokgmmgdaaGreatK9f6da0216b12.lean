/- A part of the proof: what the functions that the law calls answer, as pure values. -/
import Derived.Test.YtgicgbokgmmgdaaGreatK3763a94120ab
import Derived.Test.YtgicgbokgmmgdaaGreatK64ea14ca7074
import Derived.Test.YtgicgbokgmmgdaaGreatK89247be67603
import Derived.Test.YtgicgbokgmmgdaaGreatK8f424dd35839
import Derived.Test.YtgicgbokgmmgdaaGreatKc1f4dfab8e0b
set_option linter.unusedSimpArgs false
set_option linter.unusedVariables false
section
namespace Go.Abs
open Go.Proofs
theorem FnExactExpansionValid_ac (a0 : Expansion) (o0 : T.okL a0.row) : AC Tryz.prog 3 [.ag (a0.row.map .t)] noOb (.t (.sc (.bool true))) noOb := by
  obtain ⟨r, hr, rfl⟩ := FnExactExpansionValid_law a0 (Expansion.fit_of a0 o0)
  obtain ⟨n, hn⟩ := hr.get
  rw [Expansion.row_eq a0];
  exact m_laws_FnExactExpansionValid_ok n _ _ hn
end Go.Abs
end
