/- A part of the proof: what the functions that the law calls answer, as pure values. -/
import Derived.Test.YtehdhaaopmihaaaGreatDoorK2fa2763a6b98
import Derived.Test.YtehdhaaopmihaaaGreatDoorK90051595a00c
import Derived.Test.YtehdhaaopmihaaaGreatDoorK90dc5e03cdb6
import Derived.Test.YtehdhaaopmihaaaGreatDoorKac29da0e0afa
import Derived.Test.YtehdhaaopmihaaaGreatDoorKb84732421c79
set_option linter.unusedSimpArgs false
set_option linter.unusedVariables false
section
namespace Go.Abs
open Go.Proofs
theorem FnExactFormatCore_ac (a0 : Core) (o0 : T.okL a0.row) : AC Tryz.prog 3 [.ag (a0.row.map .t)] noOb (.t (.sc (.bool true))) noOb := by
  obtain ⟨r, hr, rfl⟩ := FnExactFormatCore_law a0 (Core.fit_of a0 o0)
  obtain ⟨n, hn⟩ := hr.get
  rw [Core.row_eq a0];
  exact m_laws_FnExactFormatCore_ok n _ _ hn
end Go.Abs
end
