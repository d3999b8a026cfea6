/- A part of the proof: what the functions that the law calls answer, as pure values. -/
import Derived.Test.YtcebadpiebamdaaGreatK7b7f7240a3e0
import Derived.Test.YtcebadpiebamdaaGreatK075984cc7243
import Derived.Test.YtcebadpiebamdaaGreatK735fa12c7972
import Derived.Test.YtcebadpiebamdaaGreatK3a8a85e5b605
import Derived.Test.YtcebadpiebamdaaGreatKecf33146cee2
set_option linter.unusedSimpArgs false
set_option linter.unusedVariables false
section
namespace Go.Abs
open Go.Proofs
theorem FnExactMatchPattern_ac (a0:List Bind) (a1:Form) (a2:List Form) (a3:Form) (o0:T.ok (.sl (a0.map Bind.row))) (o1:T.okL a1.row) (o2:T.ok (.sl (a2.map Form.row))) (o3:T.okL a3.row):AC Tryz.prog 3 [.t (.sl (a0.map Bind.row)),.ag (a1.row.map .t),.t (.sl (a2.map Form.row)),.ag (a3.row.map .t)] noOb (.t (.sc (.bool true))) noOb:=by
 obtain ⟨r,hr,rfl⟩:=zhr a0 a1 a2 a3 (binds_fit o0).1 (binds_fit o0).2 (Form.fit_of a1 o1) (forms_fit o2).1 (forms_fit o2).2 (Form.fit_of a3 o3)
 obtain ⟨n,hn⟩:=hr.get
 rw [Form.row_eq a1];rw [Form.row_eq a3];
 exact zf9 n _ _ _ _ _ hn
end Go.Abs
end
