/- A part of the proof: what the functions that the law calls answer, as pure values. -/
import Derived.Test.YtpdacpnncmemgaaK3415b291c361
import Derived.Test.YtpdacpnncmemgaaK7f3b0406a237
import Derived.Test.YtpdacpnncmemgaaK92e441f91d95
set_option linter.unusedSimpArgs false
set_option linter.unusedVariables false
section
namespace Go.Abs
open Go.Proofs
theorem FnCoreClosed_ac (a0 : List Int) (o0 : ∀ x ∈ a0, 0 ≤ x ∧ x < 256) : AC Try.prog 3 [.t (.sl (a0.map rB))] noOb (.t (.sc (.bool true))) noOb := by
  obtain ⟨r, hr, rfl⟩ := FnCoreClosed_law a0 o0
  obtain ⟨n, hn⟩ := hr.get
  exact m_laws_FnCoreClosed_ok n _ _ hn
end Go.Abs
end
