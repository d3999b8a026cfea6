/- A part of the proof: what the functions that the law calls answer, as pure values. -/
import Derived.Test.YtpmhanibecniaaaDoorK0c2fee0c4f9f
import Derived.Test.YtpmhanibecniaaaDoorK9c7294c28c07
import Derived.Test.YtpmhanibecniaaaDoorKa63e38d7321d
set_option linter.unusedSimpArgs false
set_option linter.unusedVariables false
section
namespace Go.Abs
open Go.Proofs
theorem FnNameValid_ac (a0 : List Int) (o0 : ∀ x ∈ a0, 0 ≤ x ∧ x < 256) : AC Tryd.prog 3 [.t (.sl (a0.map rB))] noOb (.t (.sc (.bool true))) noOb := by
  obtain ⟨r, hr, rfl⟩ := FnNameValid_law a0 o0
  obtain ⟨n, hn⟩ := hr.get
  exact m_laws_FnNameValid_ok n _ _ hn
end Go.Abs
end
