/- A part of the proof: what the functions that the law calls answer, as pure values. -/
import Derived.Test.YtilpcjgklfjdgaaGreatK39bd6b35c3c4
import Derived.Test.YtilpcjgklfjdgaaGreatK04e92def7231
import Derived.Test.YtilpcjgklfjdgaaGreatKe7d8b8215024
set_option linter.unusedSimpArgs false
set_option linter.unusedVariables false
section
namespace Go.Abs
open Go.Proofs
theorem FnFillVar_ac (a0 : List Int) (o0 : ∀ x ∈ a0, 0 ≤ x ∧ x < 256) : AC Tryz.prog 4 [.t (.sl (a0.map rB))] noOb (.t (.sc (.bool true))) noOb := by
  obtain ⟨r, hr, rfl⟩ := FnFillVar_law a0 o0
  obtain ⟨n, hn⟩ := hr.get
  exact m_laws_FnFillVar_ok n _ _ hn
end Go.Abs
end
