/- A part of the proof: what the functions that the law calls answer, as pure values. -/
import Derived.Test.YtpdacpnncmemgaaK0b7006a29a35
import Derived.Test.YtpdacpnncmemgaaKc1c6ec4ef6f5
import Derived.Test.YtpdacpnncmemgaaKea0396a849cd
set_option linter.unusedSimpArgs false
set_option linter.unusedVariables false
section
namespace Go.Abs
open Go.Proofs
theorem FnCoreValid_ac (a0 : List Int) (o0 : ∀ x ∈ a0, 0 ≤ x ∧ x < 256) : AC Try.prog 4 [.t (.sl (a0.map rB))] noOb (.t (.sc (.bool true))) noOb := by
  obtain ⟨r, hr, rfl⟩ := FnCoreValid_law a0 o0
  obtain ⟨n, hn⟩ := hr.get
  exact m_laws_FnCoreValid_ok n _ _ hn
end Go.Abs
end
