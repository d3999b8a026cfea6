/- A part of the proof: what the functions that the law calls answer, as pure values. -/
import Derived.Lib.Bytealg
import Derived.Test.YtcebadpiebamdaaGreatK4a85971070eb
set_option linter.unusedSimpArgs false
set_option linter.unusedVariables false
section
set_option linter.unusedVariables false
namespace Go.Abs
theorem ztq {P:Program} {f:FuncId} {a b r:S} (hfn:∃ fn,P.funcs[f]?=some fn/\fn.body.isSome=true/\(fn.name == "runtime.NumGoroutine")=false) (h:∀ w,Calls P f #[a.v,b.v] w fun e w'=>e=.returned r.v/\w'=w) :
  AC P f [.t (.sc a),.t (.sc b)] aZ (.t (.sc r)) aZ:=by
 refine ⟨hfn,?_⟩;intro w G X own xs hM hx;rw [V.IsL] at hx;obtain ⟨y,ys,rfl,h1,hx⟩:=hx;rw [V.IsL] at hx;obtain ⟨z,zs,rfl,h2,hx⟩:=hx;rw [V.IsL] at hx;subst hx;rw [V.Is,T.Is] at h1 h2;subst h1;subst h2;refine (h w).mono ?_;rintro e w' ⟨rfl,rfl⟩;exact ⟨_,G,X,rfl,hM,by rw [V.Is,T.Is]⟩
theorem ac_one {P:Program} {f:FuncId} {a r:S} (hfn:∃ fn,P.funcs[f]?=some fn/\fn.body.isSome=true/\(fn.name == "runtime.NumGoroutine")=false) (h:∀ w,Calls P f #[a.v] w fun e w'=>e=.returned r.v/\w'=w) :
  AC P f [.t (.sc a)] aZ (.t (.sc r)) aZ:=by
 refine ⟨hfn,?_⟩;intro w G X own xs hM hx;rw [V.IsL] at hx;obtain ⟨y,ys,rfl,h1,hx⟩:=hx;rw [V.IsL] at hx;subst hx;rw [V.Is,T.Is] at h1;subst h1;refine (h w).mono ?_;rintro e w' ⟨rfl,rfl⟩;exact ⟨_,G,X,rfl,hM,by rw [V.Is,T.Is]⟩
end Go.Abs
end
