/- A part of the proof: what the functions that the law calls answer, as pure values. -/
import Derived.Test.YtjjjnhpghhamkaaK462f3b6aeb89
import Derived.Test.YtjjjnhpghhamkaaK690595b2f9f4
import Derived.Test.YtjjjnhpghhamkaaKafa9bc1a9402
set_option linter.unusedSimpArgs false
set_option linter.unusedVariables false
section
namespace Go.Abs
open Go.Proofs
theorem FnMatchLiteral_ac (a0 : List Int) (o0 : ∀ x ∈ a0, 0 ≤ x ∧ x < 256) : AC Try.prog 3 [.t (.sl (a0.map rB))] noOb (.t (.sc (.bool true))) noOb := by
  obtain ⟨r, hr, rfl⟩ := FnMatchLiteral_law a0 o0
  obtain ⟨n, hn⟩ := hr.get
  exact m_laws_FnMatchLiteral_ok n _ _ hn
end Go.Abs
end
