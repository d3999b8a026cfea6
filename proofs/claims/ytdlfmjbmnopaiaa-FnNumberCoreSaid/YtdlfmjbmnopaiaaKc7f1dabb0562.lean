/- A part of the proof: what the functions that the law calls answer, as pure values. -/
import Derived.Test.YtdlfmjbmnopaiaaK07cd6e07cec3
import Derived.Test.YtdlfmjbmnopaiaaK7964d2ba4d8d
import Derived.Test.YtdlfmjbmnopaiaaKd138c561ec50
set_option linter.unusedSimpArgs false
set_option linter.unusedVariables false
section
namespace Go.Abs
open Go.Proofs
theorem FnNumberCore_ac (a0 : List Int) (o0 : ∀ x ∈ a0, 0 ≤ x ∧ x < 256) : AC Try.prog 3 [.t (.sl (a0.map rB))] noOb (.t (.sc (.bool true))) noOb := by
  obtain ⟨r, hr, rfl⟩ := FnNumberCore_law a0 o0
  obtain ⟨n, hn⟩ := hr.get
  exact m_laws_FnNumberCore_ok n _ _ hn
end Go.Abs
end
