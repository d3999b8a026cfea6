/- A part of the proof: what the functions that the law calls answer, as pure values. -/
import Derived.Test.YtjjjnhpghhamkaaGreatK0ec975921844
import Derived.Test.YtjjjnhpghhamkaaGreatK3a0accef0b89
import Derived.Test.YtjjjnhpghhamkaaGreatKd3a9ca3717a2
set_option linter.unusedSimpArgs false
set_option linter.unusedVariables false
section
namespace Go.Abs
open Go.Proofs
theorem FnDeadRules_ac (a0 : List Int) (a1 : List Int) (o0 : ∀ x ∈ a0, 0 ≤ x ∧ x < 256) (o1 : ∀ x ∈ a1, 0 ≤ x ∧ x < 256) : AC Tryz.prog 10 [.t (.sl (a0.map rB)), .t (.sl (a1.map rB))] noOb (.t (.sc (.bool true))) noOb := by
  obtain ⟨r, hr, rfl⟩ := FnDeadRules_law a0 a1 o0 o1
  obtain ⟨n, hn⟩ := hr.get
  exact m_laws_FnDeadRules_ok n _ _ _ hn
end Go.Abs
end
