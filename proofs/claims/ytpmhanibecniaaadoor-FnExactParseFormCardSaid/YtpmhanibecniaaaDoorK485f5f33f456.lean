/- A part of the proof: what the functions that the law calls answer, as pure values. -/
import Derived.Test.YtpmhanibecniaaaDoorKb2298502ad29
import Derived.Test.YtpmhanibecniaaaDoorKb28b57bccfd9
import Derived.Test.YtpmhanibecniaaaDoorKe891fbce8024
set_option linter.unusedSimpArgs false
set_option linter.unusedVariables false
section
namespace Go.Abs
open Go.Proofs
theorem FnExactParseForm_ac (a0 : ByteArray) (o0 : a0.size ≤ 140737488351232) : AC Tryd.prog 4 [.t (.sc (.str a0))] noOb (.t (.sc (.bool true))) noOb := by
  obtain ⟨r, hr, rfl⟩ := FnExactParseForm_law a0 o0
  obtain ⟨n, hn⟩ := hr.get
  exact m_laws_FnExactParseForm_ok n _ _ hn
end Go.Abs
end
