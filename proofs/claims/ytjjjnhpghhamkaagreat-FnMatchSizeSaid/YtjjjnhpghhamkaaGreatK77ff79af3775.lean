/- A part of the proof: what the functions that the law calls answer, as pure values. -/
import Derived.Test.YtjjjnhpghhamkaaGreatK99f83656913d
import Derived.Test.YtjjjnhpghhamkaaGreatKad2d70d2f491
import Derived.Test.YtjjjnhpghhamkaaGreatKf1fd350dc8fb
set_option linter.unusedSimpArgs false
set_option linter.unusedVariables false
section
namespace Go.Abs
open Go.Proofs
theorem FnMatchSize_ac (a0 : List Int) (o0 : ∀ x ∈ a0, 0 ≤ x ∧ x < 256) : AC Tryz.prog 4 [.t (.sl (a0.map rB))] noOb (.t (.sc (.bool true))) noOb := by
  obtain ⟨r, hr, rfl⟩ := FnMatchSize_law a0 o0
  obtain ⟨n, hn⟩ := hr.get
  exact m_laws_FnMatchSize_ok n _ _ hn
end Go.Abs
end
