/- A part of the proof: what the functions that the law calls answer, as pure values. -/
import Derived.Test.YtjmfepncipfenaaDoorK10e2c01bef4a
import Derived.Test.YtjmfepncipfenaaDoorK2bf1cc27785e
import Derived.Test.YtjmfepncipfenaaDoorK54963d85a1c3
set_option linter.unusedSimpArgs false
set_option linter.unusedVariables false
section
namespace Go.Abs
open Go.Proofs
theorem FnExactStartExpansion_ac   : AC Tryd.prog 3 [] noOb (.t (.sc (.bool true))) noOb := by
  obtain ⟨r, hr, rfl⟩ := FnExactStartExpansion_law  
  obtain ⟨n, hn⟩ := hr.get
  exact m_laws_FnExactStartExpansion_ok n  _ hn
end Go.Abs
end
