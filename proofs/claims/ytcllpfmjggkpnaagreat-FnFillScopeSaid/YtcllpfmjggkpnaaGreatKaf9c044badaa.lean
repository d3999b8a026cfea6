/- A part of the proof: what the functions that the law calls answer, as pure values. -/
import Derived.Test.YtcllpfmjggkpnaaGreatK901cfc26645b
import Derived.Test.YtcllpfmjggkpnaaGreatK87322861afdf
import Derived.Test.YtcllpfmjggkpnaaGreatKf9752e69a823
set_option linter.unusedSimpArgs false
set_option linter.unusedVariables false
section
namespace Go.Abs
open Go.Proofs
theorem FnFillScope_ac (a0:List Int) (o0:∀ x∈a0,0≤x∧x < 256):AC Tryz.prog 4 [.t (.sl (a0.map rB))] noOb (.t (.sc (.bool true))) noOb:=by
 obtain ⟨r,hr,rfl⟩:=FnFillScope_law a0 o0
 obtain ⟨n,hn⟩:=hr.get
 exact m_laws_FnFillScope_ok n _ _ hn
end Go.Abs
end
