/- A part of the proof: what the functions that the law calls answer, as pure values. -/
import Derived.Calls
import Derived.Laws.AppendOwn
import Derived.Orders
import Derived.Tactics
set_option linter.unusedSimpArgs false
set_option linter.unusedVariables false
section
namespace Go.Abs
inductive S where
 | int (k:IntKind) (n:Int)
 | str (s:ByteArray)
 | bool (b:Bool)
 | nip
 | nii
 | nif
 | nim
 | nis (e:TypeId)
 | gp (g:Nat)
def S.v:S->Value
 | .int k n=>.int k n
 | .str s=>.string s
 | .bool b=>.bool b
 | .nip=>.pointer none
 | .nii=>.nilIface
 | .nif=>.nilFunc
 | .nim=>.map none
 | .nis _=>.slice none 0 0
 | .gp g=>.pointer (some ⟨g,0,none⟩)
inductive T where
 | sc (s:S)
 | sl (es:List (List T))
 | ow (e:TypeId) (es:List (List T))
 | any
abbrev Im:=Nat->Option (List Value)
mutual
def T.Is (G:Im):T->Value->Prop
 | .sc s,x=>x=s.v
 | .sl es,x=>∃ A c sz,x=.slice A es.length c/\es.length<=c/\c<=maxLen/\(es=[]∨∃ b off cs,A=some ⟨b,off,none⟩/\G b=some cs/\T.Rows G sz es (cs.drop off))
 | .ow _ _,_=>False
 | .any,x=>x.oneCell'=true
def T.Rows (G:Im) (sz:Nat):List (List T)->List Value->Prop
 | [],_=>True
 | r::rs,cs=>r.length=sz/\T.Cells G r cs/\T.Rows G sz rs (cs.drop sz)
def T.Cells (G:Im):List T->List Value->Prop
 | [],_=>True
 | t::ts,cs=>(∃ c,cs[0]?=some c/\T.Is G t c)/\T.Cells G ts (cs.drop 1)
end
def Gle (G G':Im):Prop:=∀ b cs,G b=some cs->∃ ext,G' b=some (cs++ext)
theorem Gle.refl (G:Im):Gle G G:=fun _ cs h=>⟨[],by simpa using h⟩
theorem Gle.trans {a b c:Im} (h:Gle a b) (k:Gle b c):Gle a c:=fun x cs hx=>by
 obtain ⟨e,he⟩:=h x cs hx;obtain ⟨f,hf⟩:=k x _ he;exact ⟨e++f,by rw [hf,List.append_assoc]⟩
def Sub (l l':List Value):Prop:=∀ (i:Nat) (c:Value),l[i]?=some c->l'[i]?=some c
theorem Sub.drop {l l':List Value} (h:Sub l l') (k:Nat):Sub (l.drop k) (l'.drop k):=fun i c hc=>by
 rw [List.getElem?_drop] at hc ⊢;exact h _ _ hc
theorem Sub.append (l e:List Value):Sub l (l++e):=fun i c hc=>by
 rw [List.getElem?_append_left];exact hc;exact (List.getElem?_eq_some_iff.1 hc).1
theorem Sub.refl (l:List Value):Sub l l:=fun _ _ h=>h
mutual
theorem T.Is.mono {G G':Im} (hG:Gle G G'):∀ (t:T) (x:Value),T.Is G t x->T.Is G' t x
 | .sc _,_,h=>h
 | .ow _ _,_,h=>h.elim
 | .any,_,h=>h
 | .sl es,x,h=>by
   obtain ⟨A,c,sz,hx,hn,hn2,hr⟩:=h;refine ⟨A,c,sz,hx,hn,hn2,?_⟩;rcases hr with hr | ⟨b,off,cs,hA,hg,hr⟩
   ·exact .inl hr
   ·obtain ⟨e,he⟩:=hG b cs hg;exact .inr ⟨b,off,_,hA,he,T.Rows.mono hG sz es _ _ ((Sub.append cs e).drop off) hr⟩
theorem T.Rows.mono {G G':Im} (hG:Gle G G') (sz:Nat):∀ (es:List (List T)) (l l':List Value),Sub l l'->T.Rows G sz es l->T.Rows G' sz es l'
 | [],_,_,_,_=>trivial
 | r::rs,l,l',hs,h=>⟨h.1,T.Cells.mono hG r l l' hs h.2.1,T.Rows.mono hG sz rs _ _ (hs.drop sz) h.2.2⟩
theorem T.Cells.mono {G G':Im} (hG:Gle G G'):∀ (ts:List T) (l l':List Value),Sub l l'->T.Cells G ts l->T.Cells G' ts l'
 | [],_,_,_,_=>trivial
 | t::ts,l,l',hs,h=>by
   obtain ⟨⟨c,hc,hi⟩,h2⟩:=h;exact ⟨⟨c,hs _ _ hc,T.Is.mono hG t c hi⟩,T.Cells.mono hG ts _ _ (hs.drop 1) h2⟩
end
theorem T.Cells.get {G:Im}:∀ {ts:List T} {l:List Value},T.Cells G ts l->∀ (j:Nat) (t:T),ts[j]?=some t->∃ x,l[j]?=some x/\T.Is G t x
 | [],_,_,j,t,h=>by simp at h
 | t0::ts,l,h,0,t,ht=>by
   obtain ⟨⟨c,hc,hi⟩,_⟩:=h;simp at ht;subst ht;exact ⟨c,hc,hi⟩
 | t0::ts,l,h,j+1,t,ht=>by
   obtain ⟨x,hx,hi⟩:=T.Cells.get h.2 j t (by simpa using ht);exact ⟨x,by rw [List.getElem?_drop] at hx;rwa [Nat.add_comm] at hx,hi⟩
theorem T.Cells.of_get {G:Im}:∀ {ts:List T} {l:List Value},(∀ (j:Nat) (t:T),ts[j]?=some t->∃ x,l[j]?=some x/\T.Is G t x)->T.Cells G ts l
 | [],_,_=>trivial
 | t0::ts,l,h=>by
   refine ⟨?_,T.Cells.of_get fun j t ht=>?_⟩
   ·obtain ⟨x,hx,hi⟩:=h 0 t0 rfl;exact ⟨x,hx,hi⟩
   ·obtain ⟨x,hx,hi⟩:=h (j+1) t (by simpa using ht);exact ⟨x,by rw [List.getElem?_drop,Nat.add_comm];exact hx,hi⟩
theorem T.Rows.get {G:Im} {sz:Nat}:∀ {es:List (List T)} {l:List Value},T.Rows G sz es l->∀ (i:Nat) (r:List T),es[i]?=some r->r.length=sz/\T.Cells G r (l.drop (i*sz))
 | [],_,_,i,r,h=>by simp at h
 | r0::rs,l,h,0,r,hr=>by
   simp at hr;subst hr;exact ⟨h.1,by simpa using h.2.1⟩
 | r0::rs,l,h,i+1,r,hr=>by
   obtain ⟨h1,h2⟩:=T.Rows.get h.2.2 i r (by simpa using hr);refine ⟨h1,?_⟩;rw [List.drop_drop] at h2
   rwa [Nat.add_mul,Nat.one_mul,Nat.add_comm]
theorem T.Rows.of_get {G:Im} {sz:Nat}:∀ {es:List (List T)} {l:List Value},(∀ (i:Nat) (r:List T),es[i]?=some r->r.length=sz/\T.Cells G r (l.drop (i*sz)))->T.Rows G sz es l
 | [],_,_=>trivial
 | r0::rs,l,h=>by
   have h0:=h 0 r0 rfl;refine ⟨h0.1,by simpa using h0.2,T.Rows.of_get fun i r hr=>?_⟩;obtain ⟨h1,h2⟩:=h (i+1) r (by simpa using hr);refine ⟨h1,?_⟩;rw [List.drop_drop]
   rwa [Nat.add_mul,Nat.one_mul,Nat.add_comm] at h2
theorem T.Rows.drop {G:Im} {sz:Nat} {es:List (List T)} {l:List Value} (h:T.Rows G sz es l) (k:Nat):T.Rows G sz (es.drop k) (l.drop (k*sz)) :=
 T.Rows.of_get fun i r hr=>by
  rw [List.getElem?_drop] at hr;obtain ⟨h1,h2⟩:=h.get _ r hr;refine ⟨h1,?_⟩;rw [List.drop_drop,<- Nat.add_mul];exact h2
theorem T.Rows.take {G:Im} {sz:Nat} {es:List (List T)} {l:List Value} (h:T.Rows G sz es l) (k:Nat):T.Rows G sz (es.take k) l :=
 T.Rows.of_get fun i r hr=>by
  rw [List.getElem?_take] at hr;split at hr
  ·exact h.get _ r hr
  ·cases hr
theorem T.Rows.append {G:Im} {sz:Nat} {es fs:List (List T)} {xs ys:List Value} (h:T.Rows G sz es xs) (hl:xs.length=es.length*sz) (k:T.Rows G sz fs ys):T.Rows G sz (es++fs) (xs++ys) :=
 T.Rows.of_get fun i r hr=>by
  by_cases hi:i < es.length
  ·rw [List.getElem?_append_left hi] at hr;obtain ⟨h1,h2⟩:=h.get i r hr;exact ⟨h1,T.Cells.mono (Gle.refl G) r _ _ ((Sub.append xs ys).drop _) h2⟩
  ·rw [List.getElem?_append_right (by omega)] at hr;obtain ⟨h1,h2⟩:=k.get _ r hr;refine ⟨h1,?_⟩;have:(xs++ys).drop (i*sz)=ys.drop ((i-es.length)*sz):=by
    rw [show i*sz=xs.length+(i-es.length)*sz by rw [hl,<- Nat.add_mul];congr 1;omega,List.drop_append,List.drop_of_length_le (by omega)];simp
   rw [this];exact h2
inductive V where
 | t (x:T)
 | nl
 | pe (cs:List T)
 | rf (k off:Nat)
 | re (k i sz off:Nat)
 | ar (k:Nat)
 | ag (cs:List V)
 | tp (vs:List V)
 | fn (f:FuncId) (caps:List V)
 | jk
 | ze
 | sn (b:Bool) (y:T)
abbrev Xm:=Nat->Option Value
mutual
def V.Is (G:Im) (X:Xm):V->Value->Prop
 | .t y,x=>T.Is G y x
 | .nl,x=>x=.slice none 0 0
 | .pe cs,x=>∃ b off row,x=.pointer (some ⟨b,off,none⟩)/\G b=some row/\T.Cells G cs (row.drop off)
 | .rf k off,x=>∃ b,X k=some (.pointer (some ⟨b,0,none⟩))/\x=.pointer (some ⟨b,off,none⟩)
 | .re k i sz off,x=>∃ b n c,X k=some (.slice (some ⟨b,0,none⟩) n c)/\x=.pointer (some ⟨b,i*sz+off,none⟩)
 | .ar k,x=>X k=some x
 | .ag cs,x=>∃ xs:Array Value,x=.agg xs/\V.IsL G X cs xs.toList
 | .tp vs,x=>∃ xs:Array Value,x=.tuple xs/\V.IsL G X vs xs.toList
 | .fn f caps,x=>∃ xs:Array Value,x=.func (.func f) #[] xs/\V.IsL G X caps xs.toList
 | .jk,_=>True
 | .ze,x=>∃ A,x=.slice A 0 0
 | .sn b y,x=>T.Is G y x/\∃ A n c,x=.slice A n c/\A.isNone=b
def V.IsL (G:Im) (X:Xm):List V->List Value->Prop
 | [],xs=>xs=[]
 | v::vs,xs=>∃ y ys,xs=y::ys/\V.Is G X v y/\V.IsL G X vs ys
end
def Xle (X X':Xm):Prop:=∀ k x,X k=some x->X' k=some x
theorem Xle.refl (X:Xm):Xle X X:=fun _ _ h=>h
theorem Xle.trans {a b c:Xm} (h:Xle a b) (k:Xle b c):Xle a c:=fun i x hx=>k i x (h i x hx)
mutual
theorem V.Is.mono {G G':Im} {X X':Xm} (hG:Gle G G') (hX:Xle X X'):∀ (v:V) (x:Value),V.Is G X v x->V.Is G' X' v x
 | .t y,x,h=>T.Is.mono hG y x h
 | .nl,_,h=>h
 | .pe cs,_,⟨b,off,row,hx,hg,hc⟩=>by
   obtain ⟨e,he⟩:=hG b row hg;exact ⟨b,off,_,hx,he,T.Cells.mono hG cs _ _ ((Sub.append row e).drop off) hc⟩
 | .rf k off,_,⟨b,h1,h2⟩=>⟨b,hX _ _ h1,h2⟩
 | .re k i sz off,_,⟨b,n,c,h1,h2⟩=>⟨b,n,c,hX _ _ h1,h2⟩
 | .ar k,x,h=>hX _ _ h
 | .ag cs,_,⟨xs,hx,h⟩=>⟨xs,hx,V.IsL.mono hG hX cs _ h⟩
 | .tp vs,_,⟨xs,hx,h⟩=>⟨xs,hx,V.IsL.mono hG hX vs _ h⟩
 | .fn f caps,_,⟨xs,hx,h⟩=>⟨xs,hx,V.IsL.mono hG hX caps _ h⟩
 | .jk,_,_=>trivial
 | .ze,_,h=>h
 | .sn _ y,x,h=>⟨T.Is.mono hG y x h.1,h.2⟩
theorem V.IsL.mono {G G':Im} {X X':Xm} (hG:Gle G G') (hX:Xle X X'):∀ (vs:List V) (xs:List Value),V.IsL G X vs xs->V.IsL G' X' vs xs
 | [],_,h=>h
 | v::vs,_,⟨y,ys,hx,h1,h2⟩=>⟨y,ys,hx,V.Is.mono hG hX v y h1,V.IsL.mono hG hX vs ys h2⟩
end
theorem V.IsL.length {G:Im} {X:Xm}:∀ {vs:List V} {xs:List Value},V.IsL G X vs xs->xs.length=vs.length
 | [],_,h=>by subst h;rfl
 | v::vs,_,⟨y,ys,hx,_,h2⟩=>by subst hx;simp [h2.length]
theorem V.IsL.get {G:Im} {X:Xm}:∀ {vs:List V} {xs:List Value},V.IsL G X vs xs->∀ (j:Nat) (v:V),vs[j]?=some v->∃ x,xs[j]?=some x/\V.Is G X v x
 | [],_,_,j,v,h=>by simp at h
 | v0::vs,_,⟨y,ys,hx,h1,h2⟩,0,v,hv=>by subst hx;simp at hv;subst hv;exact ⟨y,rfl,h1⟩
 | v0::vs,_,⟨y,ys,hx,h1,h2⟩,j+1,v,hv=>by
   subst hx;obtain ⟨x,hx,hi⟩:=V.IsL.get h2 j v (by simpa using hv);exact ⟨x,by simpa using hx,hi⟩
theorem V.IsL.of_get {G:Im} {X:Xm}:∀ {vs:List V} {xs:List Value},xs.length=vs.length->(∀ (j:Nat) (v:V),vs[j]?=some v->∃ x,xs[j]?=some x/\V.Is G X v x)->V.IsL G X vs xs
 | [],xs,hl,_=>List.eq_nil_of_length_eq_zero hl
 | v0::vs,xs,hl,h=>by
   obtain ⟨y,ys,rfl⟩:∃ y ys,xs=y::ys:=by cases xs<;>simp at hl;exact ⟨_,_,rfl⟩
   refine ⟨y,ys,rfl,?_,V.IsL.of_get (by simpa using hl) fun j v hv=>?_⟩
   ·obtain ⟨x,hx,hi⟩:=h 0 v0 rfl;simp at hx;subst hx;exact hi
   ·obtain ⟨x,hx,hi⟩:=h (j+1) v (by simpa using hv);exact ⟨x,by simpa using hx,hi⟩
def V.At (G:Im) (X:Xm) (vs:List V) (l:List Value):Prop:=∀ (j:Nat) (v:V),vs[j]?=some v->∃ x,l[j]?=some x/\V.Is G X v x
theorem V.IsL.at {G:Im} {X:Xm} {vs:List V} {xs:List Value} (h:V.IsL G X vs xs) (k:Nat):V.At G X (vs.drop k) (xs.drop k):=fun j v hv=>by
 rw [List.getElem?_drop] at hv ⊢;exact h.get _ v hv
theorem T.Cells.at {G:Im} {X:Xm} {ts:List T} {l:List Value} (h:T.Cells G ts l):V.At G X (ts.map V.t) l:=fun j v hv=>by
 rw [List.getElem?_map] at hv;cases ht:ts[j]? with
 | none=>simp [ht] at hv
 | some t=>simp [ht] at hv;subst hv;obtain ⟨x,hx,hi⟩:=h.get j t ht;exact ⟨x,hx,hi⟩
end Go.Abs
end
