/- A part of the proof: what the functions that the law calls answer, as pure values. -/
import Derived.Test.YtjjjnhpghhamkaaGreatK0aea3f1a0c07
import Derived.Test.YtjjjnhpghhamkaaGreatK24c0d72acb92
import Derived.Test.YtjjjnhpghhamkaaGreatKe9dc178b881c
set_option linter.unusedSimpArgs false
set_option linter.unusedVariables false
section
namespace Go.Abs
open Go.Proofs
theorem FnFirstRule_ac (a0 : List Int) (o0 : ∀ x ∈ a0, 0 ≤ x ∧ x < 256) : AC Tryz.prog 9 [.t (.sl (a0.map rB))] noOb (.t (.sc (.bool true))) noOb := by
  obtain ⟨r, hr, rfl⟩ := FnFirstRule_law a0 o0
  obtain ⟨n, hn⟩ := hr.get
  exact m_laws_FnFirstRule_ok n _ _ hn
end Go.Abs
end
