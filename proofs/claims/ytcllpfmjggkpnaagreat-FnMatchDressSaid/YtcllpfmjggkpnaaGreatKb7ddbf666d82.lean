/- A part of the proof: what the functions that the law calls answer, as pure values. -/
import Derived.Test.YtcllpfmjggkpnaaGreatK289a528e5792
import Derived.Test.YtcllpfmjggkpnaaGreatKfed158489141
import Derived.Test.YtcllpfmjggkpnaaGreatK3d1295296139
set_option linter.unusedSimpArgs false
set_option linter.unusedVariables false
section
namespace Go.Abs
open Go.Proofs
theorem FnMatchDress_ac (a0 : List Int) (o0 : ∀ x ∈ a0, 0 ≤ x ∧ x < 256) : AC Tryz.prog 3 [.t (.sl (a0.map rB))] noOb (.t (.sc (.bool true))) noOb := by
  obtain ⟨r, hr, rfl⟩ := FnMatchDress_law a0 o0
  obtain ⟨n, hn⟩ := hr.get
  exact m_laws_FnMatchDress_ok n _ _ hn
end Go.Abs
end
