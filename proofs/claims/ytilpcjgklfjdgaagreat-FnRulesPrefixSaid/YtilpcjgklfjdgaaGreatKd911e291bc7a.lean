/- A part of the proof: what the functions that the law calls answer, as pure values. -/
import Derived.Test.YtilpcjgklfjdgaaGreatKd28835c16cfa
import Derived.Test.YtilpcjgklfjdgaaGreatKe98118e3df2c
import Derived.Test.YtilpcjgklfjdgaaGreatKa63c3734219c
set_option linter.unusedSimpArgs false
set_option linter.unusedVariables false
section
namespace Go.Abs
open Go.Proofs
theorem FnRulesPrefix_ac (a0:List Int) (o0:∀ x∈a0,0≤x∧x < 256):AC Tryz.prog 6 [.t (.sl (a0.map rB))] noOb (.t (.sc (.bool true))) noOb:=by
 obtain ⟨r,hr,rfl⟩:=FnRulesPrefix_law a0 o0
 obtain ⟨n,hn⟩:=hr.get
 exact zi5 n _ _ hn
end Go.Abs
end
