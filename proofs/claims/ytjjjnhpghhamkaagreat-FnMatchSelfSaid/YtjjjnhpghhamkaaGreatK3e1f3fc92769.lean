/- A part of the proof: what the functions that the law calls answer, as pure values. -/
import Derived.Test.YtjjjnhpghhamkaaGreatK2d8ca8b311aa
import Derived.Test.YtjjjnhpghhamkaaGreatKdd69a4d2a351
import Derived.Test.YtjjjnhpghhamkaaGreatKf1fd350dc8fb
set_option linter.unusedSimpArgs false
set_option linter.unusedVariables false
section
namespace Go.Abs
open Go.Proofs
theorem FnMatchSelf_ac (a0 : List Int) (o0 : ∀ x ∈ a0, 0 ≤ x ∧ x < 256) : AC Tryz.prog 3 [.t (.sl (a0.map rB))] noOb (.t (.sc (.bool true))) noOb := by
  obtain ⟨r, hr, rfl⟩ := FnMatchSelf_law a0 o0
  obtain ⟨n, hn⟩ := hr.get
  exact m_laws_FnMatchSelf_ok n _ _ hn
end Go.Abs
end
