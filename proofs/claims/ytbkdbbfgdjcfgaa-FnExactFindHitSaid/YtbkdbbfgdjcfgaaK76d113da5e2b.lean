/- A part of the proof: what the functions that the law calls answer, as pure values. -/
import Derived.Test.YtbkdbbfgdjcfgaaK4cda1cc29179
import Derived.Test.YtbkdbbfgdjcfgaaK69d18407424d
import Derived.Test.YtbkdbbfgdjcfgaaKc4161435b160
import Derived.Test.YtbkdbbfgdjcfgaaKfef7f925ace6
set_option linter.unusedSimpArgs false
set_option linter.unusedVariables false
section
namespace Go.Abs
open Go.Proofs
theorem FnExactFindHit_ac (a0 : List Hit) (a1 : Form) (o0 : T.ok (.sl (a0.map Hit.row))) (o1 : T.okL a1.row) : AC Try.prog 7 [.t (.sl (a0.map Hit.row)), .ag (a1.row.map .t)] noOb (.t (.sc (.bool true))) noOb := by
  obtain ⟨r, hr, rfl⟩ := FnExactFindHit_law a0 a1 (hits_fit o0).1 (hits_fit o0).2 (Form.fit_of a1 o1)
  obtain ⟨n, hn⟩ := hr.get
  rw [Form.row_eq a1];
  exact m_laws_FnExactFindHit_ok n _ _ _ hn
end Go.Abs
end
