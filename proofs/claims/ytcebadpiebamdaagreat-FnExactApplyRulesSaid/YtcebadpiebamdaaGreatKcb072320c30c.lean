/- A part of the proof: what the functions that the law calls answer, as pure values. -/
import Derived.Test.YtcebadpiebamdaaGreatK403ef3ea41a7
set_option linter.unusedSimpArgs false
set_option linter.unusedVariables false
section
set_option linter.unusedVariables false
namespace Go.Abs
section
variable {H:Type} {enc:TypeId × Value->H} {P:Program} {w:World} {base:Nat} {spare:Nat->Bool} {held:Bool}
theorem trod_bs {fuel:Nat} {t e:TypeId} {cs:List Value} {x:DataW H × List MemPlace} (ht:P.underlying t=some (.slice e)) (he:P.underlying e=some (.int .u8)) (hc:kG P e=some 1) (h:DataW.trod enc P w base spare held fuel t cs=some x) :
  ∃ (l:List Int) (c:Value),cs=[c]/\T.Is (G0 w) (.sl (l.map rB)) c/\T.ok (.sl (l.map rB)) :=
 zco (fun n=>[.sc (.int .u8 n)]) (sz:=0) ht hc (fun n cs' y _ h=>by
  obtain ⟨k,h1,h2,_⟩:=zds he h;exact ⟨k,h1,rfl,by simp only [T.okL];exact ⟨h2,trivial⟩⟩) h
end
theorem bytes_ok {l:List Int} (h:T.ok (.sl (l.map rB))):∀ x∈l,0<=x/\x < 256:=fun x hx=>by
 rw [T.ok] at h;have:=T.okR_mem h.2 (List.mem_map_of_mem (f:=rB) hx);simp only [T.okL,T.ok,S.ok] at this;have:=this.1;have e1:IntKind.u8.min=0:=rfl;have e2:IntKind.u8.max=255:=rfl;simp [Lit.wf] at this;omega
end Go.Abs
end
