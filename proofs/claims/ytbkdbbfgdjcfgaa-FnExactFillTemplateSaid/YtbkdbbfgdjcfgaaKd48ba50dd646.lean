/- A part of the proof: what the functions that the law calls answer, as pure values. -/
import Derived.Test.YtbkdbbfgdjcfgaaK3f09530607f9
import Derived.Test.YtbkdbbfgdjcfgaaK69e8a0ebd724
import Derived.Test.YtbkdbbfgdjcfgaaKc7de8fd386ee
import Derived.Test.YtbkdbbfgdjcfgaaKd28419b10e09
set_option linter.unusedSimpArgs false
set_option linter.unusedVariables false
section
namespace Go.Abs
open Go.Proofs
theorem FnExactFillTemplate_ac (a0 : Form) (a1 : List Hit) (o0 : T.okL a0.row) (o1 : T.ok (.sl (a1.map Hit.row))) : AC Try.prog 10 [.ag (a0.row.map .t), .t (.sl (a1.map Hit.row))] noOb (.t (.sc (.bool true))) noOb := by
  obtain ⟨r, hr, rfl⟩ := FnExactFillTemplate_law a0 a1 (Form.fit_of a0 o0) (hits_fit o1).1 (hits_fit o1).2
  obtain ⟨n, hn⟩ := hr.get
  rw [Form.row_eq a0];
  exact m_laws_FnExactFillTemplate_ok n _ _ _ hn
end Go.Abs
end
