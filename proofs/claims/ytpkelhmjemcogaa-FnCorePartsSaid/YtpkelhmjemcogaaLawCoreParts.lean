/- The mirror's answer is the law's. -/
import Derived.Test.YtpkelhmjemcogaaMirP1
import Derived.Test.YtpkelhmjemcogaaPureF
namespace Go.Abs
open Go.Proofs
theorem FnCoreParts_ac (code : List Int) (h : ∀ x ∈ code, 0 ≤ x ∧ x < 256) : AC Try.prog 4 [.t (.sl (code.map rB))] noOb (.t (.sc (.bool true))) noOb := by
  obtain ⟨r, hr, rfl⟩ := FnCoreParts_law code h
  obtain ⟨n, hn⟩ := hr.get
  exact m_laws_FnCoreParts_ok n _ _ hn
end Go.Abs
