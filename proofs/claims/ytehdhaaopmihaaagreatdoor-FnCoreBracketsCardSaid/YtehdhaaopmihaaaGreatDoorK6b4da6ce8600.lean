/- A part of the proof: what the functions that the law calls answer, as pure values. -/
import Derived.Test.YtehdhaaopmihaaaGreatDoorK2fa2763a6b98
import Derived.Test.YtehdhaaopmihaaaGreatDoorKcdabffeb0392
import Derived.Test.YtehdhaaopmihaaaGreatDoorKfacdfa2bb83a
set_option linter.unusedSimpArgs false
set_option linter.unusedVariables false
section
namespace Go.Abs
open Go.Proofs
theorem FnCoreBrackets_ac (a0 : List Int) (o0 : ∀ x ∈ a0, 0 ≤ x ∧ x < 256) : AC Tryz.prog 5 [.t (.sl (a0.map rB))] noOb (.t (.sc (.bool true))) noOb := by
  obtain ⟨r, hr, rfl⟩ := FnCoreBrackets_law a0 o0
  obtain ⟨n, hn⟩ := hr.get
  exact m_laws_FnCoreBrackets_ok n _ _ hn
end Go.Abs
end
