/- A part of the proof: what the functions that the law calls answer, as pure values. -/
import Derived.Test.YtidbdmpbcpanjaaGreatDoorK064a2fe3a5b4
import Derived.Test.YtidbdmpbcpanjaaGreatDoorK5e32567929fc
import Derived.Test.YtidbdmpbcpanjaaGreatDoorK99e92d4ad975
set_option linter.unusedSimpArgs false
set_option linter.unusedVariables false
section
namespace Go.Abs
open Go.Proofs
theorem FnFormText_ac (a0 : List Int) (a1 : List Int) (o0 : ∀ x ∈ a0, 0 ≤ x ∧ x < 256) (o1 : ∀ x ∈ a1, 0 ≤ x ∧ x < 256) : AC Tryz.prog 3 [.t (.sl (a0.map rB)), .t (.sl (a1.map rB))] noOb (.t (.sc (.bool true))) noOb := by
  obtain ⟨r, hr, rfl⟩ := FnFormText_law a0 a1 o0 o1
  obtain ⟨n, hn⟩ := hr.get
  exact m_laws_FnFormText_ok n _ _ _ hn
end Go.Abs
end
