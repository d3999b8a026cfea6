/- A part of the proof: what the functions that the law calls answer, as pure values. -/
import Derived.Lib.LaidTab
import Derived.Shelf.Strings.OnBuilder
import Derived.Test.YtcebadpiebamdaaGreatK809e4560af76
set_option linter.unusedSimpArgs false
set_option linter.unusedVariables false
section
set_option linter.unusedVariables false
set_option linter.unusedSimpArgs false
namespace Go.Abs
section
variable {P:Program} {C:Cx} {m:Nat→Ob} {w:World} {G:Im} {X:Xm}
theorem Mem.below (h:Mem P C m w G X) {w':World} (hb:Go.RowKit.Below w.heap.size w w'):Mem P C m w' G X:=by
 have hh:∀ k y b,X k=some y→((m k).has w' y b↔(m k).has w y b):=fun k y b hy=>Ob.has_congr (fun b2 B2=>hb.block b2 (h.blk_lt hy B2)) (h.ob k y hy) b
 refine ⟨h.gle,h.gold,fun b cs B2=>?_,⟨hb.os.trans h.keeps.os,hb.tape.trans h.keeps.tape,hb.output.trans h.keeps.output,Nat.le_trans h.keeps.size hb.size,fun b h1 h2=>?_⟩,fun k y hy=>?_,h.free,fun k k' y y' b h1 h2 h3 h4=>h.apart k k' y y' b h1 h2 ((hh k y b h1).1 h3) ((hh k' y' b h2).1 h4),fun k y b h1 h2=>h.mine k y b h1 ((hh k y b h1).1 h2),h.cell,h.old⟩
 ·obtain ⟨cur,e,fr,hw,hr⟩:=h.gok b cs B2
  exact ⟨cur,e,fr,by rw [hb.block b (h.gok.lt B2)];exact hw,hr⟩
 ·rw [hb.block b (by have:=h.keeps.size;omega)];exact h.keeps.block b h1 h2
 ·exact (h.ob k y hy).mono (Gle.refl G) (Xle.refl X) (fun _ _=>rfl) (fun b' hb'=>hb.block b' (h.blk_lt hy hb'))
end
end Go.Abs
end
