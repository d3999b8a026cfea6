/- A part of the proof: what the functions that the law calls answer, as pure values. -/
import Derived.Test.YtcebadpiebamdaaGreatK097a9247f88a
import Derived.Test.YtcebadpiebamdaaGreatK403ef3ea41a7
import Derived.Test.YtcebadpiebamdaaGreatKf37756560082
import Derived.Test.YtcebadpiebamdaaGreatK66e79e711a67
import Derived.Test.YtcebadpiebamdaaGreatK90c324fb9675
set_option linter.unusedSimpArgs false
set_option linter.unusedVariables false
section
namespace Go.Abs
open Go.Proofs
theorem zcn (a0:List aH) (a1:List aI) (a2:List aB) (a3:aB) (o0:T.ok (.sl (a0.map aH.row))) (o1:T.ok (.sl (a1.map aI.row))) (o2:T.ok (.sl (a2.map aB.row))) (o3:T.okL a3.row):AC Tryz.prog 5 [.t (.sl (a0.map aH.row)),.t (.sl (a1.map aI.row)),.t (.sl (a2.map aB.row)),.ag (a3.row.map .t)] aZ (.t (.sc (.bool true))) aZ:=by
 obtain ⟨r,hr,rfl⟩:=zbO a0 a1 a2 a3 (zll o0).1 (zll o0).2 (zkN o1).1 (zkN o1).2 (zle o2).1 (zle o2).2 (aB.fit_of a3 o3);obtain ⟨n,hn⟩:=hr.get;rw [aB.row_eq a3];exact xP n _ _ _ _ _ hn
end Go.Abs
end
