/- A part of the proof: what the functions that the law calls answer, as pure values. -/
import Derived.Test.YtehdhaaopmihaaaGreatDoorK2fa2763a6b98
import Derived.Test.YtehdhaaopmihaaaGreatDoorK871519604a6f
import Derived.Test.YtehdhaaopmihaaaGreatDoorKce47dc0f93fc
set_option linter.unusedSimpArgs false
set_option linter.unusedVariables false
section
namespace Go.Abs
open Go.Proofs
theorem FnAlikeText_ac (a0 : List Int) (o0 : ∀ x ∈ a0, 0 ≤ x ∧ x < 256) : AC Tryz.prog 6 [.t (.sl (a0.map rB))] noOb (.t (.sc (.bool true))) noOb := by
  obtain ⟨r, hr, rfl⟩ := FnAlikeText_law a0 o0
  obtain ⟨n, hn⟩ := hr.get
  exact m_laws_FnAlikeText_ok n _ _ hn
end Go.Abs
end
