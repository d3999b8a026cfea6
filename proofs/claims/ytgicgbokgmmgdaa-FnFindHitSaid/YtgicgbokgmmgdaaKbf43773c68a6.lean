/- A part of the proof: what the functions that the law calls answer, as pure values. -/
import Derived.Test.YtgicgbokgmmgdaaK29380fbb4cbe
import Derived.Test.YtgicgbokgmmgdaaKe0417f5b3899
import Derived.Test.YtgicgbokgmmgdaaKf66af3d23fe9
set_option linter.unusedSimpArgs false
set_option linter.unusedVariables false
section
namespace Go.Abs
open Go.Proofs
theorem FnFindHit_ac (a0 : List Int) (o0 : ∀ x ∈ a0, 0 ≤ x ∧ x < 256) : AC Try.prog 11 [.t (.sl (a0.map rB))] noOb (.t (.sc (.bool true))) noOb := by
  obtain ⟨r, hr, rfl⟩ := FnFindHit_law a0 o0
  obtain ⟨n, hn⟩ := hr.get
  exact m_laws_FnFindHit_ok n _ _ hn
end Go.Abs
end
