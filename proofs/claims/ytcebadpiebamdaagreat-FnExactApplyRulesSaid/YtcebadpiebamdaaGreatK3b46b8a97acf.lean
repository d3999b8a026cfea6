/- A part of the proof: what the functions that the law calls answer, as pure values. -/
import Derived.Below
import Derived.Carry
import Derived.ChangeOld
import Derived.OpenShut
import Derived.ProofKit
import Derived.ShutString
import Derived.SizedLaws
import Derived.Test.YtcebadpiebamdaaGreatK88ab7c9a8326
import Derived.WalkKit
set_option linter.unusedSimpArgs false
set_option linter.unusedVariables false
section
set_option linter.unusedSimpArgs false
set_option linter.unusedVariables false
namespace Go.Abs
open Go.RowKit
def G0 (w:World):Im:=fun b=>match w.heap[b]? with
 | some (.cells c _ _)=>some c.toList
 | _=>none
theorem G0_ok (w:World):Gok (G0 w) w:=fun b cs h=>by
 unfold G0 at h;split at h
 ·rename_i c e fr hw;cases h;exact ⟨c,e,fr,hw,[],by simp⟩
 ·cases h
theorem zpq {w:World} {a:Addr} {x:Value} (h:w.cell? a=some x):a.spot=none/\∃ cs,G0 w a.block=some cs/\cs[a.off]?=some x:=by
 unfold World.cell? at h;split at h
 ·rename_i c e fr hw;split at h
  ·cases h
  ·rename_i hs;refine ⟨by cases hh:a.spot<;>simp_all,c.toList,by unfold G0;rw [hw],by simpa using h⟩
 ·cases h
section
variable {H:Type} {enc:TypeId × Value->H} {P:Program} {w:World} {base:Nat} {spare:Nat->Bool} {held:Bool}
theorem zpo (a:Addr) (i:Nat) (h:a.spot=none):a.add i=⟨a.block,a.off+i,none⟩:=by
 obtain ⟨b,o,s⟩:=a;simp at h;subst h;exact Addr.add_lit b o i
theorem zeH {t:TypeId} {n:Nat} (h:kG P t=some n):P.cellsOf t=n:=by
 unfold kG at h;unfold Program.cellsOf;rw [h];rfl
theorem gD {fuel:Nat} {t ft:TypeId} {i off k:Nat} {cs:List Value} {x:DataW H × List MemPlace} (hf:jJ P t i=some (off,ft)) (hk:kG P ft=some k) (h:DataW.trod enc P w base spare held fuel t cs=some x) :
  ∃ n y,n < fuel/\DataW.trod enc P w base spare held n ft ((cs.drop off).take k)=some y:=by
 obtain ⟨fields,fd,m,hu,hfd,hs,rfl,rfl⟩:=zb0 hf;obtain ⟨xs,n,rfl,_,_,hl,hx⟩:=DataW.trod_struct hu h;have:=hx i fd hfd;rw [zeH hk] at this;have hi:i < xs.length:=by
  rw [hl];exact (Array.getElem?_eq_some_iff.1 hfd).1
 rw [List.getElem?_eq_getElem hi] at this;exact ⟨n,_,by omega,this⟩
theorem zdD {fuel:Nat} {t ft:TypeId} {i off k:Nat} {cs:List Value} {x:DataW H × List MemPlace} (hf:jJ P t i=some (off,ft)) (hk:kG P t=some k) (h:DataW.trod enc P w base spare held fuel t cs=some x):cs.length=k:=by
 obtain ⟨fields,fd,m,hu,hfd,hs,rfl,rfl⟩:=zb0 hf;obtain ⟨xs,n,_,_,hl,_⟩:=DataW.trod_struct hu h;rw [hl,zeH hk]
theorem zds {fuel:Nat} {t:TypeId} {k:IntKind} {cs:List Value} {x:DataW H × List MemPlace} (ht:P.underlying t=some (.int k)) (h:DataW.trod enc P w base spare held fuel t cs=some x):∃ n,T.Cells (G0 w) [.sc (.int k n)] cs/\T.ok (.sc (.int k n))/\cs=[.int k n]:=by
 obtain ⟨n,rfl,_,hw⟩:=DataW.trod_int ht h;exact ⟨n,by simp [T.Cells,T.Is,S.v],hw,rfl⟩
theorem zrC {fuel:Nat} {t:TypeId} {cs:List Value} {x:DataW H × List MemPlace} (ht:P.underlying t=some .string) (h:DataW.trod enc P w base spare held fuel t cs=some x):∃ s,T.Cells (G0 w) [.sc (.str s)] cs/\T.ok (.sc (.str s))/\cs=[.string s]:=by
 obtain ⟨s,rfl,_,hw⟩:=DataW.trod_string ht h;exact ⟨s,by simp [T.Cells,T.Is,S.v],hw,rfl⟩
theorem zco {α:Type} (row:α->List T) {sz fuel:Nat} {t e:TypeId} {cs:List Value} {x:DataW H × List MemPlace} (ht:P.underlying t=some (.slice e)) (hc:kG P e=some (sz+1))
  (he:∀ n cs' y,n < fuel->DataW.trod enc P w base spare held n e cs'=some y->∃ a,T.Cells (G0 w) (row a) cs'/\(row a).length=sz+1/\T.okL (row a)) (h:DataW.trod enc P w base spare held fuel t cs=some x) :
  ∃ (l:List α) (c:Value),cs=[c]/\T.Is (G0 w) (.sl (l.map row)) c/\T.ok (.sl (l.map row)):=by
 rcases DataW.trod_slice ht h with ⟨rfl,_⟩ | ⟨a,len,cap,elems,rest,n,rfl,rfl,_,hb,hlc,hcap,hel,hx,_⟩
 ·exact ⟨[],_,rfl,by rw [T.Is];exact ⟨none,0,0,rfl,by simp,Nat.zero_le _,.inl (by simp)⟩,by simp [T.ok,T.okR]⟩
 ·have key:∀ i:_root_.Fin len,∃ (a':α),(∃ cs',w.cells? base (a.add (i.1*(sz+1))) (sz+1)=some cs'/\T.Cells (G0 w) (row a') cs')/\(row a').length=sz+1/\T.okL (row a'):=by
   rintro ⟨i,hi⟩;have:=hx i hi;rw [zeH hc,List.getElem?_eq_getElem (by omega)] at this;obtain ⟨cs',h1,h2⟩:=Option.bind_eq_some_iff.1 this;obtain ⟨a',h3,h4,h5⟩:=he n cs' _ (by omega) h2;exact ⟨a',⟨cs',h1,h3⟩,h4,h5⟩
  obtain ⟨f,hf⟩:=Classical.axiomOfChoice key;refine ⟨List.ofFn f,_,rfl,?_,?_⟩
  ·rw [T.Is];refine ⟨some a,cap,sz+1,by simp,by simpa using hlc,hcap,?_⟩;rcases Nat.eq_zero_or_pos len with h0 | h0
   ·left;subst h0;simp
   ·right;obtain ⟨⟨cs0,h1,_⟩,_⟩:=hf ⟨0,h0⟩;obtain ⟨_,hl0,C0⟩:=World.cells?_some h1;have h00:=C0 0 (by omega);simp only [Nat.zero_mul] at h00;have ha0:(a.add 0).add 0=a:=by simp [Addr.add]
    rw [ha0,List.getElem?_eq_getElem (by omega)] at h00;obtain ⟨hsp,cs,hG,_⟩:=zpq h00;refine ⟨a.block,a.off,cs,by obtain ⟨b,o,s⟩:=a;simp at hsp;subst hsp;rfl,hG,T.Rows.of_get fun i r hr=>?_⟩;simp only [List.getElem?_map,List.getElem?_ofFn] at hr;split at hr
    ·rename_i hi;simp at hr;subst hr;obtain ⟨⟨cs',h1,h2⟩,h3,_⟩:=hf ⟨i,hi⟩;refine ⟨h3,T.Cells.mono (Gle.refl _) _ _ _ ?_ h2⟩;obtain ⟨_,hl',hc'⟩:=World.cells?_some h1;intro j c hj;have hjl:j < sz+1:=by
      have:=(List.getElem?_eq_some_iff.1 hj).1;omega
     have hcell:=hc' j hjl;rw [hj] at hcell;rw [zpo a _ hsp] at hcell;rw [zpo _ _ rfl] at hcell;obtain ⟨_,cs2,hG2,hx2⟩:=zpq hcell;rw [hG] at hG2;cases hG2;rw [List.drop_drop,List.getElem?_drop,<- hx2]
    ·simp at hr
  ·rw [T.ok];refine ⟨by simp;exact Nat.le_trans hlc hcap,?_⟩;have:∀ l:List (List T),(∀ r∈l,T.okL r)->T.okR l:=by
    intro l hl;induction l with
    | nil=>rw [T.okR];trivial
    | cons r l ih=>rw [T.okR];exact ⟨hl r (by simp),ih fun r hr=>hl r (by simp [hr])⟩
   refine this _ fun r hr=>?_
   simp only [List.mem_map,List.mem_ofFn] at hr;obtain ⟨a',⟨i,rfl⟩,rfl⟩:=hr;exact (hf i).2.2
theorem zoW {fuel:Nat} {t e:TypeId} {cs:List Value} {x:DataW H × List MemPlace} (ht:P.underlying t=some (.slice e)) (he:P.underlying e=some (.int .i64)) (hc:kG P e=some 1) (h:DataW.trod enc P w base spare held fuel t cs=some x) :
  ∃ (l:List Int) (c:Value),cs=[c]/\T.Is (G0 w) (wD l) c/\T.ok (wD l) :=
 zco (fun n=>[ti n]) (sz:=0) ht hc (fun n cs' y _ h=>by
  obtain ⟨k,h1,h2,_⟩:=zds he h;exact ⟨k,h1,rfl,by simp only [T.okL];exact ⟨h2,trivial⟩⟩) h
theorem tK {G:Im} {t:T} {ts:List T} {c:Value} {cs:List Value} (h:T.Is G t c) (hs:T.Cells G ts cs):T.Cells G (t::ts) (c::cs):=by
 rw [T.Cells];exact ⟨⟨c,by simp,h⟩,by simpa using hs⟩
theorem oW {G:Im}:∀ {a b:List T} {ca cb:List Value},T.Cells G a ca->ca.length=a.length->T.Cells G b cb->T.Cells G (a++b) (ca++cb)
 | [],b,[],cb,_,_,h=>h
 | [],b,c::ca,cb,_,hl,_=>by simp at hl
 | t::a,b,[],cb,_,hl,_=>by simp at hl
 | t::a,b,c::ca,cb,h,hl,hb=>by
   rw [T.Cells] at h;obtain ⟨⟨c',hc,hi⟩,h⟩:=h;simp at hc;subst hc;exact tK hi (oW (by simpa using h) (by simpa using hl) hb)
theorem zbr {G:Im}:T.Cells G [] []:=by rw [T.Cells];trivial
theorem nL {t:T} {ts:List T} (h:t.ok) (hs:T.okL ts):T.okL (t::ts):=by rw [T.okL];exact ⟨h,hs⟩
theorem zhe:T.okL []:=by rw [T.okL];trivial
theorem zlW:∀ {a b:List T},T.okL a->T.okL b->T.okL (a++b)
 | [],_,_,h=>h
 | t::a,b,h,hb=>by rw [List.cons_append,T.okL];rw [T.okL] at h;exact ⟨h.1,zlW h.2 hb⟩
theorem zpF (w:World) (ht:zrX P w):Mem P ⟨w,G0 w,fun _=>False,fun _=>none⟩ aZ w (G0 w) (fun _=>none) :=
 ⟨⟨⟨ht,fun _ _ _ _ _ h=>h⟩,Gle.refl _⟩,fun _ _ _=>rfl,G0_ok w,zdr.refl _ _,fun _ _ h=>by simp at h,fun _=>by simp [aZ],fun _ _ _ _ _ h=>by simp at h,fun _ _ _ h=>by simp at h,fun _ _ h=>by simp at h,fun _ _ h=>by simp at h⟩
theorem zdr.below {w w':World} (h:zdr (fun _=>False) w w'):Below w.heap.size w w':=⟨h.os,h.tape,h.output,h.size,fun k hk=>h.block k hk (fun h=>h)⟩
theorem AC.law {f:FuncId} {args:List V} {xs:List Value} {w:World} (ht:zrX P w) (h:AC P f args aZ (vb true) aZ) (hx:V.IsL (G0 w) (fun _=>none) args xs):Calls P f xs.toArray w fun e w'=>e=.returned (.bool true)/\Below w.heap.size w w':=by
 refine (h.2 w (G0 w) _ (fun _=>False) xs (zpF w ht) hx).mono ?_;rintro e w' ⟨x,G',X',rfl,hM,hr⟩;rw [V.Is,T.Is] at hr;exact ⟨by rw [hr];rfl,hM.keeps.below⟩
theorem zo3 {G:Im} {X:Xm}:∀ {ts:List T} {cs:List Value},T.Cells G ts cs->cs.length=ts.length->V.IsL G X (ts.map .t) cs
 | [],cs,_,hl=>by rw [List.map_nil,V.IsL];exact List.eq_nil_of_length_eq_zero hl
 | t::ts,[],_,hl=>by simp at hl
 | t::ts,c::cs,h,hl=>by
   rw [T.Cells] at h;obtain ⟨⟨c',hc,hi⟩,h⟩:=h;simp at hc;subst hc;rw [List.map_cons,V.IsL];exact ⟨_,_,rfl,by rw [V.Is];exact hi,zo3 (by simpa using h) (by simpa using hl)⟩
theorem znQ {W:World} {base:Nat} {t:TypeId} {v:Value} (ha:n9 P t=some true) (h:Value.okWide P W .any base t v):∃ cs,v=.agg cs:=by
 unfold n9 at ha;unfold Value.okWide at h;split at h
 ·obtain ⟨cs,rfl,_⟩:=h;exact ⟨cs,rfl⟩
 ·obtain ⟨cs,rfl,_⟩:=h;exact ⟨cs,rfl⟩
 ·rename_i h1 h2;cases hu:P.underlying t with
  | none=>rw [hu] at ha;cases ha
  | some d =>
    rw [hu] at ha;cases d<;>simp_all
end
end Go.Abs
end
section
set_option linter.unusedSimpArgs false
set_option linter.unusedVariables false
namespace Go.Abs
mutual
theorem V.Is.dom {G:Im} {X:Xm}:∀ (v:V) (x:Value),V.Is G X v x->∀ k∈v.ids,X k≠none
 | .t y,x,_,k,hk=>by simp [V.ids] at hk
 | .nl,x,_,k,hk=>by simp [V.ids] at hk
 | .pe cs,x,_,k,hk=>by simp [V.ids] at hk
 | .rf j off,x,h,k,hk=>by
   rw [V.Is] at h;rw [V.ids] at hk;obtain ⟨b,h,_⟩:=h;simp at hk;subst hk;rw [h];simp
 | .re j i sz off,x,h,k,hk=>by
   rw [V.Is] at h;rw [V.ids] at hk;obtain ⟨b,n,c,h,_⟩:=h;simp at hk;subst hk;rw [h];simp
 | .ar j,x,h,k,hk=>by
   rw [V.Is] at h;rw [V.ids] at hk;simp at hk;subst hk;rw [h];simp
 | .ag cs,x,h,k,hk=>by
   rw [V.Is] at h;rw [V.ids] at hk;obtain ⟨xs,_,h⟩:=h;exact V.IsL.dom cs _ h k hk
 | .tp cs,x,h,k,hk=>by
   rw [V.Is] at h;rw [V.ids] at hk;obtain ⟨xs,_,h⟩:=h;exact V.IsL.dom cs _ h k hk
 | .fn f cs,x,h,k,hk=>by
   rw [V.Is] at h;rw [V.ids] at hk;obtain ⟨xs,_,h⟩:=h;exact V.IsL.dom cs _ h k hk
 | .jk,x,_,k,hk=>by simp [V.ids] at hk
 | .ze,x,_,k,hk=>by simp [V.ids] at hk
 | .sn _ _,x,_,k,hk=>by simp [V.ids] at hk
theorem V.IsL.dom {G:Im} {X:Xm}:∀ (vs:List V) (xs:List Value),V.IsL G X vs xs->∀ k∈V.idsL vs,X k≠none
 | [],xs,_,k,hk=>by rw [V.idsL] at hk;cases hk
 | v::vs,xs,h,k,hk=>by
   rw [V.IsL] at h;rw [V.idsL] at hk;obtain ⟨y,ys,_,h1,h2⟩:=h;rcases List.mem_append.1 hk with hk | hk
   ·exact V.Is.dom v y h1 k hk
   ·exact V.IsL.dom vs ys h2 k hk
end
def frame {α:Type} (asg:List Nat) (f g:Nat->α):Nat->α:=fun i=>bif asg.elem i then f i else g i
theorem lA {α:Type} (asg:List Nat) (f g:Nat->α) (i:Nat):frame asg f g i=bif asg.elem i then f i else g i:=rfl
def Off {α:Type} (asg:List Nat) (f g:Nat->α):Prop:=∀ i,asg.elem i=false->f i=g i
theorem x6 {α:Type} (asg:List Nat) (f:Nat->α):Off asg f f:=fun _ _=>rfl
theorem vO {α:Type} (asg:List Nat) (f g:Nat->α):Off asg (frame asg f g) g:=fun i hi=>by rw [lA,hi];rfl
theorem za2 {α:Type} {a b:List Nat} {f g h:Nat->α} (hs:a.all (fun i=>b.elem i)=true) (hg:Off b g h):Off b (frame a f g) h:=fun i hi=>by
 rw [lA];cases he:a.elem i with
 | true =>
   rw [List.all_eq_true] at hs;have:=hs i (by simpa using he);rw [hi] at this;cases this
 | false=>exact hg i hi
theorem za1 {α:Type} {asg:List Nat} {f g:Nat->α} {k:Nat} {v:α} (hk:asg.elem k=true) (h:Off asg f g):Off asg (upd f k v) g:=fun i hi=>by
 unfold upd;rw [if_neg (fun e=>by subst e;rw [hk] at hi;cases hi)];exact h i hi
theorem x5 {α:Type} {asg:List Nat} {f g:Nat->α} {k:Nat} {v:α} (hk:v=f k) (h:Off asg f g):Off asg (upd f k v) g:=fun i hi=>by
 unfold upd;by_cases e:i=k
 ·subst e;rw [if_pos rfl,hk];exact h i hi
 ·rw [if_neg e];exact h i hi
def zcp (och gar:List Nat) (k:Nat):Bool:=och.elem k||!gar.elem k
def zou (s:Nat->V) (och gar:List Nat) (q:Nat->Nat):List (Nat × V)->Prop
 | []=>True
 | (i,v)::r=>(s i=v.ren q/\v.ids.all (zcp och gar)=true)/\zou s och gar q r
def zov (m:Nat->Ob) (och gar:List Nat) (q:Nat->Nat):List (Nat × Ob)->Prop
 | []=>True
 | (i,o)::r=>(m (q i)=o.ren q/\o.ids.all (zcp och gar)=true)/\zov m och gar q r
theorem zhF {s:Nat->V} {och gar:List Nat} {q:Nat->Nat}:∀ {l:List (Nat × V)},zou s och gar q l->∀ i,zz l i=.jk∨(s i=(zz l i).ren q/\(zz l i).ids.all (zcp och gar)=true)
 | [],_,i=>.inl rfl
 | (j,v)::r,h,i=>by
   rw [tJ];by_cases hij:i=j
   ·subst hij;rw [if_pos rfl];exact .inr h.1
   ·rw [if_neg hij];exact zhF h.2 i
theorem zhG {m:Nat->Ob} {och gar:List Nat} {q:Nat->Nat}:∀ {l:List (Nat × Ob)},zov m och gar q l->∀ i,i∈l.map (·.1)->m (q i)=(cR l i).ren q/\(cR l i).ids.all (zcp och gar)=true
 | [],_,i=>fun h=>by simp at h
 | (j,v)::r,h,i=>by
   rw [eX];by_cases hij:i=j
   ·subst hij;rw [if_pos rfl];exact fun _=>h.1
   ·rw [if_neg hij];exact fun hm=>zhG h.2 i (by simp [hij] at hm;simpa using hm)
def zrY (s:Nat->V) (l:List (Nat × V)):Prop:=∀ p∈l,s p.1=p.2
def zqp (m:Nat->Ob) (l:List (Nat × Ob)):Prop:=∀ p∈l,m p.1=p.2
theorem zpQ {s:Nat->V} {l:List (Nat × V)} (h:zrY s l) (i:Nat):zz l i=.jk∨zz l i=s i:=by
 induction l with
 | nil=>exact .inl rfl
 | cons p l ih =>
   obtain ⟨j,v⟩:=p;rw [tJ];by_cases hij:i=j
   ·subst hij;rw [if_pos rfl];exact .inr (h (i,v) (by simp)).symm
   ·rw [if_neg hij];exact ih (fun p hp=>h p (by simp [hp]))
theorem zla {m:Nat->Ob} {l:List (Nat × Ob)} (h:zqp m l) (i:Nat) (hi:i∈l.map (·.1)):cR l i=m i:=by
 induction l with
 | nil=>simp at hi
 | cons p l ih =>
   obtain ⟨j,v⟩:=p;rw [eX];by_cases hij:i=j
   ·subst hij;rw [if_pos rfl];exact (h (i,v) (by simp)).symm
   ·rw [if_neg hij];exact ih (fun p hp=>h p (by simp [hp])) (by simp [hij] at hi;simpa using hi)
section
variable {P:Program} {C:Cx} {n:Nat} {Q:Exit->St->Prop} {s:Nat->V} {m:Nat->Ob}
def okR (R:List (Nat × Nat)) (och gar:List Nat) (m:Nat->Ob):Bool :=
 R.all (fun p=>och.elem p.1&&qE (m p.1))&&(och.map (qOf R)).all (fun k=>(och++gar).elem k)&&decide ((och.map (qOf R)).Nodup)
theorem zhB {f:Nat->Nat}:∀ {l:List Nat},(l.map f).Nodup->∀ {a b:Nat},a∈l->b∈l->f a=f b->a=b
 | [],_,a,b,ha,_,_=>by cases ha
 | x::l,h,a,b,ha,hb,he=>by
   rw [List.map_cons,List.nodup_cons] at h;rcases List.mem_cons.1 ha with ha' | ha<;>rcases List.mem_cons.1 hb with hb' | hb
   ·rw [ha',hb']
   ·exact absurd (List.mem_map.2 ⟨b,hb,by rw [<- he,ha']⟩) h.1
   ·exact absurd (List.mem_map.2 ⟨a,ha,by rw [he,hb']⟩) h.1
   ·exact zhB h.2 ha hb he
mutual
theorem V.ren_congr {q:Nat->Nat}:∀ (v:V),(∀ j∈v.ids,q j=j)->v.ren q=v
 | .rf _ _,h=>by rw [V.ren,h _ (by simp [V.ids])]
 | .re _ _ _ _,h=>by rw [V.ren,h _ (by simp [V.ids])]
 | .ar _,h=>by rw [V.ren,h _ (by simp [V.ids])]
 | .t _,_=>rfl
 | .nl,_=>rfl
 | .pe _,_=>rfl
 | .jk,_=>rfl
 | .ze,_=>rfl
 | .sn _ _,_=>rfl
 | .ag cs,h=>by rw [V.ids] at h;rw [V.ren,V.renL_congr cs h]
 | .tp cs,h=>by rw [V.ids] at h;rw [V.ren,V.renL_congr cs h]
 | .fn f cs,h=>by rw [V.ids] at h;rw [V.ren,V.renL_congr cs h]
theorem V.renL_congr {q:Nat->Nat}:∀ (vs:List V),(∀ j∈V.idsL vs,q j=j)->V.renL q vs=vs
 | [],_=>rfl
 | v::vs,h=>by
   rw [V.idsL] at h;rw [V.renL,V.ren_congr v (fun j hj=>h j (by simp [hj])),V.renL_congr vs (fun j hj=>h j (by simp [hj]))]
end
theorem zhc:∀ {R:List (Nat × Nat)} {k:Nat},(∀ p∈R,p.1≠k)->qOf R k=k
 | [],_,_=>rfl
 | (a,b)::r,k,h=>by
   unfold qOf;rw [if_neg (fun e=>h (a,b) (by simp) e.symm)];exact zhc (fun p hp=>h p (by simp [hp]))
theorem Ob.Ok_unren {G:Im} {X Y:Xm} {w:World} {o:Ob} {x:Value} {q:Nat->Nat} (hq:∀ k∈o.ids,∀ y,Y (q k)=some y->X k=some y) (h:Ob.Ok P G Y w (o.ren q) x):Ob.Ok P G X w o x:=by
 cases o with
 | box cs =>
   obtain ⟨b,cur,e,h1,h2,h3,h4⟩:=h;exact ⟨b,cur,e,h1,h2,V.IsL.unren cs _ hq h3,h4⟩
 | no=>trivial
 | dead=>trivial
 | dah es e hs =>
   obtain ⟨h1,h2,h0⟩:=h;refine ⟨h1,h2,fun z hz=>?_⟩;obtain ⟨a,n,c,inf,y,h3,h4,h5,h6⟩:=h0 _ (List.mem_map_of_mem hz);exact ⟨a,n,c,inf,y,h3,h4,hq z.2.2 (List.mem_map_of_mem (f:=fun h:Nat × Nat × Nat=>h.2.2) hz) y h5,h6⟩
 | arr es e md=>exact h
 | ro es=>exact h
 | dar es e=>exact h
 | mp f=>exact h
 | mpx bm es clock=>exact h
 | it mo si seen c0=>exact h
section
variable {α:Type} {asg och gar:List Nat} {μ:α->Nat} {sl:α->List (Nat × V)} {ob:α->List (Nat × Ob)} {Inv:α->Prop} {a:α} {s0:Nat->V} {m0:Nat->Ob} {st:St} {id:Nat}
end
theorem znd:zrY s []:=fun _ h=>by cases h
theorem zgS:zqp m []:=fun _ h=>by cases h
theorem zlb {i:Nat} {v v':V} {r:List (Nat × V)} (h1:s i=v') (h2:v'=v) (h4:zrY s r):zrY s ((i,v)::r):=fun p hp=>by
 rcases List.mem_cons.1 hp with rfl | hp
 ·exact h1.trans h2
 ·exact h4 p hp
theorem zdR {i:Nat} {v v':Ob} {r:List (Nat × Ob)} (h1:m i=v') (h2:v'=v) (h4:zqp m r):zqp m ((i,v)::r):=fun p hp=>by
 rcases List.mem_cons.1 hp with rfl | hp
 ·exact h1.trans h2
 ·exact h4 p hp
theorem zk8 {och gar:List Nat} {q:Nat->Nat} {i:Nat} {v v':V} {r:List (Nat × V)} (h1:s i=v') (h2:v'=v.ren q) (h3:v.ids.all (zcp och gar)=true) (h4:zou s och gar q r):zou s och gar q ((i,v)::r):=⟨⟨h1.trans h2,h3⟩,h4⟩
theorem zk9 {och gar:List Nat} {q:Nat->Nat} {i:Nat} {v v':Ob} {r:List (Nat × Ob)} (h1:m (q i)=v') (h2:v'=v.ren q) (h3:v.ids.all (zcp och gar)=true) (h4:zov m och gar q r):zov m och gar q ((i,v)::r):=⟨⟨h1.trans h2,h3⟩,h4⟩
end
end Go.Abs
end
