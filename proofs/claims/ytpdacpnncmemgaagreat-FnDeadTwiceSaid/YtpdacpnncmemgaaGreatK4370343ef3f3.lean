/- A part of the proof: what the functions that the law calls answer, as pure values. -/
import Derived.Test.YtpdacpnncmemgaaGreatKe05290cf3b33
import Derived.Test.YtpdacpnncmemgaaGreatK4a8a4af090eb
import Derived.Test.YtpdacpnncmemgaaGreatK5093f9d16cf1
set_option linter.unusedSimpArgs false
set_option linter.unusedVariables false
section
namespace Go.Abs
open Go.Proofs
theorem FnDeadTwice_ac (a0:List Int) (a1:List Int) (o0:∀ x∈a0,0≤x∧x < 256) (o1:∀ x∈a1,0≤x∧x < 256):AC Tryz.prog 3 [.t (.sl (a0.map rB)),.t (.sl (a1.map rB))] noOb (.t (.sc (.bool true))) noOb:=by
 obtain ⟨r,hr,rfl⟩:=FnDeadTwice_law a0 a1 o0 o1
 obtain ⟨n,hn⟩:=hr.get
 exact m_laws_FnDeadTwice_ok n _ _ _ hn
end Go.Abs
end
