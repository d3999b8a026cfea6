/- A part of the proof: what the functions that the law calls answer, as pure values. -/
import Derived.Test.YtcebadpiebamdaaGreatKe13bdc305c76
import Derived.Test.YtcebadpiebamdaaGreatKcf8a4073a22e
import Derived.Test.YtcebadpiebamdaaGreatK7c04a2656488
import Derived.Test.YtcebadpiebamdaaGreatK312b6bcbf2d8
import Derived.Test.YtcebadpiebamdaaGreatK3c12e1c5a40a
set_option linter.unusedSimpArgs false
set_option linter.unusedVariables false
section
namespace Go.Abs
open Go.Proofs
theorem int_ok {n : Int} (h : (Lit.int .i64 n).wf = true) : -9223372036854775808 ≤ n ∧ n ≤ 9223372036854775807 := by
  have e1 : IntKind.i64.min = -9223372036854775808 := rfl
  have e2 : IntKind.i64.max = 9223372036854775807 := rfl
  simp [Lit.wf] at h
  omega
theorem FnExactFindMacro_ac (a0 : zv) (a1 : Int) (o0 : T.okL a0.row) (o1 : -9223372036854775808 ≤ a1 ∧ a1 ≤ 9223372036854775807) : AC Tryz.prog 4 [.ag (a0.row.map .t), .t (.sc (.int .i64 a1))] noOb (.t (.sc (.bool true))) noOb := by
  obtain ⟨r, hr, rfl⟩ := FnExactFindMacro_law a0 a1 (zv.fit_of a0 o0) o1
  obtain ⟨n, hn⟩ := hr.get
  rw [zv.row_eq a0];
  exact zgF n _ _ _ hn
end Go.Abs
end
