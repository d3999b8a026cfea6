/- A part of the proof: what the functions that the law calls answer, as pure values. -/
import Derived.Test.YtidbdmpbcpanjaaGreatDoorKbefe731356fb
import Derived.Test.YtidbdmpbcpanjaaGreatDoorKe49cd82651b7
import Derived.Test.YtidbdmpbcpanjaaGreatDoorKfc9e7baacff6
set_option linter.unusedSimpArgs false
set_option linter.unusedVariables false
section
namespace Go.Abs
open Go.Proofs
theorem FnFormBlanks_ac (a0 : List Int) (o0 : ∀ x ∈ a0, 0 ≤ x ∧ x < 256) : AC Tryz.prog 4 [.t (.sl (a0.map rB))] noOb (.t (.sc (.bool true))) noOb := by
  obtain ⟨r, hr, rfl⟩ := FnFormBlanks_law a0 o0
  obtain ⟨n, hn⟩ := hr.get
  exact m_laws_FnFormBlanks_ok n _ _ hn
end Go.Abs
end
