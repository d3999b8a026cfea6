/- A part of the proof: what the functions that the law calls answer, as pure values. -/
import Derived.Test.YtcebadpiebamdaaGreatK097a9247f88a
import Derived.Test.YtcebadpiebamdaaGreatK403ef3ea41a7
import Derived.Test.YtcebadpiebamdaaGreatK66e79e711a67
set_option linter.unusedSimpArgs false
set_option linter.unusedVariables false
section
set_option linter.unusedVariables false
namespace Go.Abs
theorem okR_mem {α:Type} {f:α->List T}:∀ {l:List α},T.okR (l.map f)->∀ x∈l,T.okL (f x)
 | y::ys,h,x,hx=>by
   rw [List.map_cons,T.okR] at h;rcases List.mem_cons.1 hx with rfl | hx
   ·exact h.1
   ·exact okR_mem h.2 x hx
theorem aH.fit_of (b:aH) (h:T.okL b.row):b.fit:=by
 rw [aH.row_eq] at h;simp only [T.okL,T.ok,S.ok,List.length_map] at h;exact ⟨h.1,h.2.1.1⟩
theorem eD.fit_of (x:eD) (h:T.okL x.row):x.fit:=by
 rw [eD.row_eq] at h;simp only [T.okL,T.ok,S.ok,List.length_map] at h;refine ⟨h.2.1.1,aB.fits_of _ h.2.1.2,h.2.2.1.1,fun r hr=>?_⟩;have:=aI.fit_of r (okR_mem h.2.2.1.2 r hr);exact ⟨this.1,this.2⟩
theorem cM.fit_of (x:cM) (h:T.okL x.row):x.fit:=by
 rw [cM.row_eq] at h;simp only [T.okL,T.ok,S.ok,List.length_map] at h;exact ⟨h.1.1,fun b hb=>aH.fit_of b (okR_mem h.1.2 b hb),h.2.1.1,fun m hm=>eD.fit_of m (okR_mem h.2.1.2 m hm)⟩
theorem zll {l:List aH} (h:T.ok (.sl (l.map aH.row))):l.length<=9223372036854775807/\∀ b∈l,b.fit:=by
 rw [T.ok,List.length_map] at h;exact ⟨h.1,fun b hb=>aH.fit_of b (okR_mem h.2 b hb)⟩
theorem zkN {l:List aI} (h:T.ok (.sl (l.map aI.row))):l.length<=9223372036854775807/\∀ r∈l,r.fit:=by
 rw [T.ok,List.length_map] at h;exact ⟨h.1,fun r hr=>by have:=aI.fit_of r (okR_mem h.2 r hr);exact ⟨this.1,this.2⟩⟩
end Go.Abs
end
