/- A part of the proof: what the functions that the law calls answer, as pure values. -/
import Derived.Test.YtilpcjgklfjdgaaGreatK2c4231596b33
import Derived.Test.YtilpcjgklfjdgaaGreatK4a594d8f96c4
import Derived.Test.YtilpcjgklfjdgaaGreatKf78e0c879820
set_option linter.unusedSimpArgs false
set_option linter.unusedVariables false
section
namespace Go.Abs
open Go.Proofs
theorem FnFillSize_ac (a0 : List Int) (o0 : ∀ x ∈ a0, 0 ≤ x ∧ x < 256) : AC Tryz.prog 5 [.t (.sl (a0.map rB))] noOb (.t (.sc (.bool true))) noOb := by
  obtain ⟨r, hr, rfl⟩ := FnFillSize_law a0 o0
  obtain ⟨n, hn⟩ := hr.get
  exact m_laws_FnFillSize_ok n _ _ hn
end Go.Abs
end
