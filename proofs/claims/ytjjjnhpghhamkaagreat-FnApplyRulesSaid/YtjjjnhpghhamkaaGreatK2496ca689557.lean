/- A part of the proof: what the functions that the law calls answer, as pure values. -/
import Derived.Test.YtjjjnhpghhamkaaGreatKb12cae7a6900
import Derived.Test.YtjjjnhpghhamkaaGreatKb1014fd5d553
import Derived.Test.YtjjjnhpghhamkaaGreatKa18b558014bb
set_option linter.unusedSimpArgs false
set_option linter.unusedVariables false
section
namespace Go.Abs
open Go.Proofs
theorem FnApplyRules_ac (a0:List Int) (o0:∀ x∈a0,0≤x∧x < 256):AC Tryz.prog 12 [.t (.sl (a0.map rB))] noOb (.t (.sc (.bool true))) noOb:=by
 obtain ⟨r,hr,rfl⟩:=FnApplyRules_law a0 o0
 obtain ⟨n,hn⟩:=hr.get
 exact m_laws_FnApplyRules_ok n _ _ hn
end Go.Abs
end
