/- The mirror's answer is the law's. -/
import Derived.Test.YtpkelhmjemcogaaMirP1
import Derived.Test.YtpkelhmjemcogaaPureF
namespace Go.Abs
open Go.Proofs
theorem FnFreeOf_ac (code : List Int) (h : ∀ x ∈ code, 0 ≤ x ∧ x < 256) : AC Try.prog 3 [.t (.sl (code.map rB))] noOb (.t (.sc (.bool true))) noOb := by
  obtain ⟨r, hr, rfl⟩ := FnFreeOf_law code h
  obtain ⟨n, hn⟩ := hr.get
  exact m_laws_FnFreeOf_ok n _ _ hn
end Go.Abs
