/- A part of the proof: what the functions that the law calls answer, as pure values. -/
import Derived.Lib.LaidTab
import Derived.Shelf.Strings.OnBuilder
import Derived.Test.YtcllpfmjggkpnaaGreatKcebb77d9be8c
set_option linter.unusedSimpArgs false
set_option linter.unusedVariables false
section
set_option linter.unusedVariables false
set_option linter.unusedSimpArgs false
namespace Go.Abs
open Go.Sort
section
variable {P:Program} {C:Cx} {m:Nat→Ob} {w:World} {G:Im} {X:Xm}
theorem Mem.below (h:Mem P C m w G X) {w':World} (hb:Go.RowKit.Below w.heap.size w w'):Mem P C m w' G X:=by
 have hh:∀ k y b,X k=some y→((m k).has w' y b↔(m k).has w y b):=fun k y b hy=>Ob.has_congr (fun b2 B2=>hb.block b2 (h.blk_lt hy B2)) (h.ob k y hy) b
 refine ⟨h.gle,h.gold,fun b cs B2=>?_,⟨hb.os.trans h.keeps.os,hb.tape.trans h.keeps.tape,hb.output.trans h.keeps.output,Nat.le_trans h.keeps.size hb.size,fun b h1 h2=>?_⟩,fun k y hy=>?_,h.free,fun k k' y y' b h1 h2 h3 h4=>h.apart k k' y y' b h1 h2 ((hh k y b h1).1 h3) ((hh k' y' b h2).1 h4),fun k y b h1 h2=>h.mine k y b h1 ((hh k y b h1).1 h2),h.cell,h.old⟩
 ·obtain ⟨cur,e,fr,hw,hr⟩:=h.gok b cs B2
  exact ⟨cur,e,fr,by rw [hb.block b (h.gok.lt B2)];exact hw,hr⟩
 ·rw [hb.block b (by have:=h.keeps.size;omega)];exact h.keeps.block b h1 h2
 ·exact (h.ob k y hy).mono (Gle.refl G) (Xle.refl X) (fun _ _=>rfl) (fun b' hb'=>hb.block b' (h.blk_lt hy hb'))
end
end Go.Abs
end
section
set_option linter.unusedVariables false
set_option linter.unusedSimpArgs false
namespace Go.Abs
open Go.Sort
theorem below_drewN (w:World) (q:Nat):Go.RowKit.Below w.heap.size w (w.drewN q):=⟨rfl,rfl,rfl,Nat.le_refl _,fun _ _=>rfl⟩
theorem ac_search {P:Program} {f e:Nat} (xs:List Int) (x:Int) (hfn:∃ fn,P.funcs[f]?=some fn∧fn.body.isSome=true∧(fn.name == "runtime.NumGoroutine")=false) (h1:szOf P e=some 1)
  (h:∀ (b c:Nat) (w:World),(∀ j,j < xs.length→w.cell? ⟨b,0+j,none⟩=some (.int .i64 (xs.getD j 0)))→Calls P f #[.slice (some ⟨b,0,none⟩) xs.length c,.int .i64 x] w fun e w'=>e=.returned (.tuple #[.int .i64 ((xs.take xs.length).countP (· < x):Nat),.bool ((xs.take xs.length).contains x)])∧∃ q,w'=w.drewN q)
  (hnil:∀ (A:Option Addr) (c:Nat) (w:World),Calls P f #[.slice A 0 c,.int .i64 x] w fun e w'=>e=.returned (.tuple #[.int .i64 0,.bool false])∧w'=w) :
  AC P f [.ar 9300,.t (.sc (.int .i64 x))] (objs [(9300,.arr (xs.map rI) e true)]) (.tp [.t (.sc (.int .i64 (xs.countP (· < x):Nat))),.t (.sc (.bool (xs.contains x)))]) (objs [(9300,.arr (xs.map rI) e true)]):=by
 refine ⟨hfn,?_⟩
 intro w G X own ys hM hx
 rw [V.IsL] at hx
 obtain ⟨y,ys,rfl,hx1,hx⟩:=hx
 rw [V.IsL] at hx
 obtain ⟨z,zs,rfl,h2,hx⟩:=hx
 rw [V.IsL] at hx
 subst hx
 rw [V.Is] at hx1
 rw [V.Is,T.Is] at h2
 subst h2
 have ho:=hM.ob 9300 y hx1
 rw [objs_one] at ho
 have hrv:∀ G X,V.Is G X (.tp [.t (.sc (.int .i64 (xs.countP (· < x):Nat))),.t (.sc (.bool (xs.contains x)))]) (.tuple #[.int .i64 (xs.countP (· < x):Nat),.bool (xs.contains x)]):=fun G X=>by
  rw [V.Is]
  refine ⟨_,rfl,?_⟩
  rw [V.IsL]
  refine ⟨_,_,rfl,by rw [V.Is,T.Is];rfl,?_⟩
  rw [V.IsL]
  refine ⟨_,_,rfl,by rw [V.Is,T.Is];rfl,?_⟩
  rw [V.IsL]
 rcases arr_ints h1 ho with ⟨⟨A,rfl⟩,rfl⟩ | ⟨g,cap,cur,rfl,hg,hlt,h4,h5,h6,hc,hG⟩
 ·refine (hnil A 0 w).mono ?_
  rintro e' w' ⟨rfl,rfl⟩
  exact ⟨_,G,X,rfl,hM,hrv G X⟩
 ·refine (h g (cap+1) w (fun j hj=>?_)).mono ?_
  ·rw [Nat.zero_add,cell_at hg]
   have:=hc j _ (List.getElem?_eq_getElem hj)
   rw [this]
   simp [List.getD_eq_getElem?_getD,hj]
  ·rintro e' w' ⟨rfl,q,rfl⟩
   rw [List.take_length]
   exact ⟨_,G,X,rfl,hM.below (below_drewN w q),hrv G X⟩
end Go.Abs
end
