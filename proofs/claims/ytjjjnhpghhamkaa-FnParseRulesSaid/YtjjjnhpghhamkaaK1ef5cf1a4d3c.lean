/- A part of the proof: what the functions that the law calls answer, as pure values. -/
import Derived.Test.YtjjjnhpghhamkaaK0f2d057922fa
import Derived.Test.YtjjjnhpghhamkaaK73d4455cd519
import Derived.Test.YtjjjnhpghhamkaaK7d2db5ed90dd
set_option linter.unusedSimpArgs false
set_option linter.unusedVariables false
section
namespace Go.Abs
open Go.Proofs
theorem FnParseRules_ac (a0 : List Int) (o0 : ∀ x ∈ a0, 0 ≤ x ∧ x < 256) : AC Try.prog 4 [.t (.sl (a0.map rB))] noOb (.t (.sc (.bool true))) noOb := by
  obtain ⟨r, hr, rfl⟩ := FnParseRules_law a0 o0
  obtain ⟨n, hn⟩ := hr.get
  exact m_laws_FnParseRules_ok n _ _ hn
end Go.Abs
end
