/- A part of the proof: what the functions that the law calls answer, as pure values. -/
import Derived.Test.YtilpcjgklfjdgaaGreatKe8a810139b76
import Derived.Test.YtilpcjgklfjdgaaGreatK37905bffe380
import Derived.Test.YtilpcjgklfjdgaaGreatK4ff6a9e918d6
set_option linter.unusedSimpArgs false
set_option linter.unusedVariables false
section
namespace Go.Abs
open Go.Proofs
theorem FnRulesPrefix_ac (a0:List Int) (o0:∀ x∈a0,0≤x∧x < 256):AC Tryz.prog 6 [.t (.sl (a0.map rB))] noOb (.t (.sc (.bool true))) noOb:=by
 obtain ⟨r,hr,rfl⟩:=FnRulesPrefix_law a0 o0
 obtain ⟨n,hn⟩:=hr.get
 exact zi6 n _ _ hn
end Go.Abs
end
