/- A part of the proof: what the functions that the law calls answer, as pure values. -/
import Derived.Test.YtbkdbbfgdjcfgaaK6acd1b830261
import Derived.Test.YtbkdbbfgdjcfgaaK8a0633f01ccf
import Derived.Test.YtbkdbbfgdjcfgaaKdba459f4df05
set_option linter.unusedSimpArgs false
set_option linter.unusedVariables false
section
set_option linter.unusedVariables false
namespace Go.Abs
mutual
theorem Core.fit_of : ∀ (f : Core), T.okL f.row → f.fit
  | .mk kind id name n ids data kids, h => by
    have e : Core.row (.mk kind id name n ids data kids) = T.sc (S.int .i64 kind) :: T.sc (S.int .i64 id) :: T.sc (S.str name) :: T.sc (S.int .i64 n) :: T.sl (ids.map rI) :: (data.row ++ [T.sl (kids.map Core.row)]) := by
      obtain ⟨a, b, c, d, e⟩ := data
      rw [Core.row_mk, Form.row_mk]; rfl
    rw [e] at h
    simp only [T.okL] at h
    obtain ⟨h1, h2⟩ := okL_split h.2.2.2.2.2
    simp only [T.okL, T.ok, S.ok, List.length_map] at h h2
    rw [Core.fit]
    exact ⟨h.2.2.1, h.2.2.2.2.1.1, Form.fit_of data h1, h2.1.1, Core.fits_of kids h2.1.2⟩
theorem Core.fits_of : ∀ (l : List Core), T.okR (l.map Core.row) → Core.fits l
  | [], _ => by rw [Core.fits]; trivial
  | f :: fs, h => by
    rw [List.map_cons, T.okR] at h
    rw [Core.fits]
    exact ⟨Core.fit_of f h.1, Core.fits_of fs h.2⟩
end
end Go.Abs
end
