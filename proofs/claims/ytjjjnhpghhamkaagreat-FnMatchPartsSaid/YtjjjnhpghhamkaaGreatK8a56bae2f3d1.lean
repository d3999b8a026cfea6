/- A part of the proof: what the functions that the law calls answer, as pure values. -/
import Derived.Test.YtjjjnhpghhamkaaGreatK1cc3bbfbfcad
import Derived.Test.YtjjjnhpghhamkaaGreatK52f8c37c2e69
import Derived.Test.YtjjjnhpghhamkaaGreatKf1fd350dc8fb
set_option linter.unusedSimpArgs false
set_option linter.unusedVariables false
section
namespace Go.Abs
open Go.Proofs
theorem FnMatchParts_ac (a0 : List Int) (o0 : ∀ x ∈ a0, 0 ≤ x ∧ x < 256) : AC Tryz.prog 6 [.t (.sl (a0.map rB))] noOb (.t (.sc (.bool true))) noOb := by
  obtain ⟨r, hr, rfl⟩ := FnMatchParts_law a0 o0
  obtain ⟨n, hn⟩ := hr.get
  exact m_laws_FnMatchParts_ok n _ _ hn
end Go.Abs
end
