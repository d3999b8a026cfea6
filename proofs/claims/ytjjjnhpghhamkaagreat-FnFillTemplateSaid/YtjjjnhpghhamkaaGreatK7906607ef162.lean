/- A part of the proof: what the functions that the law calls answer, as pure values. -/
import Derived.Test.YtjjjnhpghhamkaaGreatKdf42b12638b4
import Derived.Test.YtjjjnhpghhamkaaGreatKf0241327ac35
import Derived.Test.YtjjjnhpghhamkaaGreatKfa6fd1316e23
set_option linter.unusedSimpArgs false
set_option linter.unusedVariables false
section
namespace Go.Abs
open Go.Proofs
theorem FnFillTemplate_ac (a0 : List Int) (o0 : ∀ x ∈ a0, 0 ≤ x ∧ x < 256) : AC Tryz.prog 11 [.t (.sl (a0.map rB))] noOb (.t (.sc (.bool true))) noOb := by
  obtain ⟨r, hr, rfl⟩ := FnFillTemplate_law a0 o0
  obtain ⟨n, hn⟩ := hr.get
  exact zhe n _ _ hn
end Go.Abs
end
