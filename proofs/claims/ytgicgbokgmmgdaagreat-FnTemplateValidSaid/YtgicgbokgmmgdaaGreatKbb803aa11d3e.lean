/- A part of the proof: what the functions that the law calls answer, as pure values. -/
import Derived.Test.YtgicgbokgmmgdaaGreatK1ca40ee424ba
import Derived.Test.YtgicgbokgmmgdaaGreatK53653f266a93
import Derived.Test.YtgicgbokgmmgdaaGreatK9755d113d921
set_option linter.unusedSimpArgs false
set_option linter.unusedVariables false
section
namespace Go.Abs
open Go.Proofs
theorem FnTemplateValid_ac (a0 : List Int) (o0 : ∀ x ∈ a0, 0 ≤ x ∧ x < 256) : AC Tryz.prog 4 [.t (.sl (a0.map rB))] noOb (.t (.sc (.bool true))) noOb := by
  obtain ⟨r, hr, rfl⟩ := FnTemplateValid_law a0 o0
  obtain ⟨n, hn⟩ := hr.get
  exact m_laws_FnTemplateValid_ok n _ _ hn
end Go.Abs
end
