/- A part of the proof: what the functions that the law calls answer, as pure values. -/
import Derived.Test.YtcebadpiebamdaaGreatK097a9247f88a
import Derived.Test.YtcebadpiebamdaaGreatK403ef3ea41a7
set_option linter.unusedSimpArgs false
set_option linter.unusedVariables false
section
set_option linter.unusedVariables false
namespace Go.Abs
mutual
theorem aB.fit_of:∀ (f:aB),T.okL f.row->f.fit
 | .mk kind name n scopes kids,h=>by
   rw [aB.row_mk] at h;simp only [T.okL,T.ok,S.ok,List.length_map] at h;rw [aB.fit];exact ⟨h.2.1,h.2.2.2.1.1,h.2.2.2.2.1.1,aB.fits_of kids h.2.2.2.2.1.2⟩
theorem aB.fits_of:∀ (l:List aB),T.okR (l.map aB.row)->aB.fits l
 | [],_=>by rw [aB.fits];trivial
 | f::fs,h=>by
   rw [List.map_cons,T.okR] at h;rw [aB.fits];exact ⟨aB.fit_of f h.1,aB.fits_of fs h.2⟩
end
theorem zdP:∀ {a b:List T},T.okL (a++b)->T.okL a/\T.okL b
 | [],b,h=>⟨by rw [T.okL];trivial,h⟩
 | x::xs,b,h=>by
   rw [List.cons_append,T.okL] at h;obtain ⟨h1,h2⟩:=zdP h.2;exact ⟨by rw [T.okL];exact ⟨h.1,h1⟩,h2⟩
mutual
theorem Hit.fit_of:∀ (f:Hit),T.okL f.row->f.fit
 | .mk name depth one many,h=>by
   have e:Hit.row (.mk name depth one many)=name.row++(T.sc (S.int .i64 depth)::(one.row++[T.sl (many.map Hit.row)])):=by
    obtain ⟨a,b,c,d,e⟩:=name;obtain ⟨a',b',c',d',e'⟩:=one;rw [Hit.row_mk,aB.row_mk,aB.row_mk];rfl
   rw [e] at h;obtain ⟨h1,h2⟩:=zdP h;rw [T.okL] at h2;obtain ⟨h3,h4⟩:=zdP h2.2;rw [T.okL,T.ok,List.length_map] at h4;rw [Hit.fit];exact ⟨aB.fit_of name h1,aB.fit_of one h3,h4.1.1,Hit.fits_of many h4.1.2⟩
theorem Hit.fits_of:∀ (l:List Hit),T.okR (l.map Hit.row)->Hit.fits l
 | [],_=>by rw [Hit.fits];trivial
 | f::fs,h=>by
   rw [List.map_cons,T.okR] at h;rw [Hit.fits];exact ⟨Hit.fit_of f h.1,Hit.fits_of fs h.2⟩
end
theorem hits_fit {l:List Hit} (h:T.ok (.sl (l.map Hit.row))):l.length<=9223372036854775807/\Hit.fits l:=by
 rw [T.ok,List.length_map] at h;exact ⟨h.1,Hit.fits_of l h.2⟩
theorem zle {l:List aB} (h:T.ok (.sl (l.map aB.row))):l.length<=9223372036854775807/\aB.fits l:=by
 rw [T.ok,List.length_map] at h;exact ⟨h.1,aB.fits_of l h.2⟩
theorem aI.fit_of:∀ (r:aI),T.okL r.row->r.pattern.fit/\r.template.fit
 | .mk p t,h=>by
   have e:aI.row (.mk p t)=p.row++t.row:=by
    obtain ⟨a,b,c,d,e⟩:=p;obtain ⟨a',b',c',d',e'⟩:=t;rw [aI.row_mk,aB.row_mk,aB.row_mk];rfl
   rw [e] at h;obtain ⟨h1,h2⟩:=zdP h;exact ⟨aB.fit_of p h1,aB.fit_of t h2⟩
end Go.Abs
end
