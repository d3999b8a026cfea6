/- A part of the proof: what the functions that the law calls answer, as pure values. -/
import Derived.Test.YtcebadpiebamdaaGreatK7b7f7240a3e0
import Derived.Test.YtcebadpiebamdaaGreatK075984cc7243
import Derived.Test.YtcebadpiebamdaaGreatK735fa12c7972
set_option linter.unusedSimpArgs false
set_option linter.unusedVariables false
section
set_option linter.unusedVariables false
namespace Go.Abs
theorem okR_mem {α:Type} {f:α→List T}:∀ {l:List α},T.okR (l.map f)→∀ x∈l,T.okL (f x)
 | y::ys,h,x,hx=>by
   rw [List.map_cons,T.okR] at h
   rcases List.mem_cons.1 hx with rfl | hx
   ·exact h.1
   ·exact okR_mem h.2 x hx
theorem Bind.fit_of (b:Bind) (h:T.okL b.row):b.fit:=by
 rw [Bind.row_eq] at h
 simp only [T.okL,T.ok,S.ok,List.length_map] at h
 exact ⟨h.1,h.2.1.1⟩
theorem zaQ.fit_of (x:zaQ) (h:T.okL x.row):x.fit:=by
 rw [zaQ.row_eq] at h
 simp only [T.okL,T.ok,S.ok,List.length_map] at h
 refine ⟨h.2.1.1,Form.fits_of _ h.2.1.2,h.2.2.1.1,fun r hr=>?_⟩
 have:=Rule.fit_of r (okR_mem h.2.2.1.2 r hr)
 exact ⟨this.1,this.2⟩
theorem zae.fit_of (x:zae) (h:T.okL x.row):x.fit:=by
 rw [zae.row_eq] at h
 simp only [T.okL,T.ok,S.ok,List.length_map] at h
 exact ⟨h.1.1,fun b hb=>Bind.fit_of b (okR_mem h.1.2 b hb),h.2.1.1,fun m hm=>zaQ.fit_of m (okR_mem h.2.1.2 m hm)⟩
theorem binds_fit {l:List Bind} (h:T.ok (.sl (l.map Bind.row))):l.length≤9223372036854775807∧∀ b∈l,b.fit:=by
 rw [T.ok,List.length_map] at h
 exact ⟨h.1,fun b hb=>Bind.fit_of b (okR_mem h.2 b hb)⟩
theorem rules_fit {l:List Rule} (h:T.ok (.sl (l.map Rule.row))):l.length≤9223372036854775807∧∀ r∈l,r.fit:=by
 rw [T.ok,List.length_map] at h
 exact ⟨h.1,fun r hr=>by have:=Rule.fit_of r (okR_mem h.2 r hr);exact ⟨this.1,this.2⟩⟩
end Go.Abs
end
