/- A part of the proof: what the functions that the law calls answer, as pure values. -/
import Derived.IntWalk
import Derived.Test.YtcebadpiebamdaaGreatK666add0a0524
set_option linter.unusedSimpArgs false
set_option linter.unusedVariables false
section
set_option linter.unusedSimpArgs false
set_option linter.unusedVariables false
namespace Go.Abs
section ops
variable {P:Program} {C:Cx} {m:Nat->Ob} {w:World} {G:Im} {X:Xm}
theorem zhs {zs:List V} {zt:List T} {z:Array Value} (hz:V.IsL G X zs z.toList) (hzt:∀ (m':Nat->Ob),zaC m' zs=some zt) (hM:Mem P C m w G X) (hpure:zs.flatMap fz=[]) {sz:Nat} (hs:z.size=sz) (h0:0 < sz) (n:Nat) :
  T.Rows G sz (List.replicate n zt) ((Array.range (n*sz)).map (fun x=>z[x % z.size]!)).toList/\((Array.range (n*sz)).map (fun x=>z[x % z.size]!)).size=n*sz:=by
 obtain ⟨hl,hc⟩:=zhb hM (hzt m) (fun k hk=>by rw [hpure] at hk;simp at hk) hz;have hzl:zt.length=sz:=by rw [hl];simpa using hs
 refine ⟨T.Rows.of_get fun i r hr=>?_,by simp⟩;rw [List.getElem?_replicate] at hr;split at hr
 ·rename_i hi;cases hr;refine ⟨hzl,T.Cells.of_get fun j t ht=>?_⟩;obtain ⟨y,hy,hiy⟩:=hc.get j t ht;have hj:j < sz:=by have:=(List.getElem?_eq_some_iff.1 ht).1;omega
  have hmul:(i+1)*sz<=n*sz:=Nat.mul_le_mul_right _ (by omega);rw [Nat.add_mul,Nat.one_mul] at hmul;refine ⟨y,?_,hiy⟩;rw [List.getElem?_drop];simp only [Array.toList_map,Array.toList_range,List.getElem?_map,List.getElem?_range (show i*sz+j < n*sz by omega),Option.map_some];congr 1;rw [hs,show (i*sz+j) % sz=j by rw [Nat.mul_comm,Nat.mul_add_mod];exact Nat.mod_eq_of_lt hj];simp at hy;have hjz:j < z.size:=by omega
  rw [getElem!_pos z j hjz];rw [Array.getElem?_eq_getElem hjz] at hy;simpa using hy
 ·cases hr
def zkk (P:Program) (e:TypeId):Option (List T) :=
 match mG P e with
 | some zs=>if zs.flatMap fz=[] then zaC (fun _=>.no) zs else none
 | none=>none
theorem zhu:∀ {zs:List V} (m m':Nat->Ob),zs.flatMap fz=[]->zaC m zs=zaC m' zs
 | [],_,_,_=>rfl
 | v::vs,m,m',h=>by
   rw [List.flatMap_cons,List.append_eq_nil_iff] at h;have:toT m v=toT m' v:=by cases v<;>simp [fz] at h<;>rfl
   simp only [zaC,this,zhu m m' h.2]
def zcA (m:Nat->Ob) (sz:Nat):List (List T)->List (Nat × V)->Option (List (List T))
 | es,[]=>some es
 | es,(i,v)::r=>if xC v=true/\i < es.length then match zaC m (bZ v) with
   | some ts=>if ts.length=sz then zcA m sz (es.set i ts) r else none
   | none=>none
   else none
theorem zkO {sz:Nat} (hM:Mem P C m w G X):∀ {parts:List (Nat × V)} {xs:List (Nat × Value)} {es fs:List (List T)} {cells:Array Value},T.Rows G sz es cells.toList->cells.size=es.length*sz->(∀ r∈es,r.length=sz) ->
  (∀ k∈parts.flatMap (fun p=>(bZ p.2).flatMap fz),zit m k) ->
  xs.length=parts.length->(∀ (j i:Nat) (v:V),parts[j]?=some (i,v)->∃ x,xs[j]?=some (i,x)/\V.Is G X v x)->zcA m sz es parts=some fs ->
  ∃ cells',Instr.fill (fun i=>some (i*sz,sz)) cells xs=some cells'/\T.Rows G sz fs cells'.toList/\cells'.size=fs.length*sz/\fs.length=es.length
 | [],xs,es,fs,cells,hr,hs,_,_,hlen,_,h=>by
   simp [zcA] at h;subst h;have:xs=[]:=List.eq_nil_of_length_eq_zero (by simpa using hlen);subst this;exact ⟨cells,by simp [Instr.fill],hr,hs,rfl⟩
 | (i,v)::r,xs,es,fs,cells,hr,hs,hall,hun,hlen,hp,h=>by
   obtain ⟨⟨i',x⟩,xs',rfl⟩:∃ y ys,xs=y::ys:=by cases xs<;>simp at hlen;exact ⟨_,_,rfl⟩
   obtain ⟨x',hx',hi⟩:=hp 0 i v rfl;simp at hx';obtain ⟨rfl,rfl⟩:=hx';unfold zcA at h;split at h
   ·rename_i hc;obtain ⟨hb,hlt⟩:=hc;cases hts:zaC m (bZ v) with
    | none=>rw [hts] at h;simp at h
    | some ts =>
      rw [hts] at h;simp only at h;split at h
      ·rename_i htl;have hvc:=zbk hi (zeO hb) hM.cell;obtain ⟨h1,h2⟩:=zhb hM hts (fun k hk=>hun k (by simp;left;simpa using hk)) hvc;have hxl:x.cells.toList.length=sz:=by omega
       have hmul:(i'+1)*sz<=es.length*sz:=Nat.mul_le_mul_right _ (by omega);rw [Nat.add_mul,Nat.one_mul] at hmul;have hset:=zgM [] x.cells.toList (i'*sz) 0 cells (by simp at hxl ⊢;omega);have hfold:(x.cells.zipIdx.foldl (fun cs (p:Value × Nat)=>cs.setIfInBounds (i'*sz+p.2) p.1) cells).toList=cK cells.toList (i'*sz) x.cells.toList:=by
        rw [<- Array.foldl_toList,Array.toList_zipIdx];simpa using hset
       have hrow:es[i']?=some es[i']:=List.getElem?_eq_getElem hlt;have hsetr:=hr.set (off:=0) (ts:=ts) (ys:=x.cells.toList) hrow (hall _ (List.getElem_mem hlt)) (by omega) h2 (by omega) (by simpa using hs);have hsp0:cK es[i'] 0 ts=ts:=by
        unfold cK;rw [List.take_zero,List.nil_append,List.drop_of_length_le (by have:=hall _ (List.getElem_mem hlt);omega),List.append_nil]
       rw [hsp0,Nat.add_zero] at hsetr;obtain ⟨cells',g1,g2,g3,g4⟩:=zkO hM (cells:=x.cells.zipIdx.foldl (fun cs (p:Value × Nat)=>cs.setIfInBounds (i'*sz+p.2) p.1) cells) (xs:=xs') (by rw [hfold];exact hsetr)
        (by rw [<- Array.length_toList,hfold,mT _ _ _ (by simp at hxl ⊢;omega)];simpa using hs)
        (fun q hq=>by
         rcases List.mem_or_eq_of_mem_set hq with hq | rfl
         ·exact hall q hq
         ·exact htl)
        (fun k hk=>hun k (by simp;right;simpa using hk)) (by simpa using hlen)
        (fun j i v hj=>by
         obtain ⟨x,hx,hi⟩:=hp (j+1) i v (by simpa using hj);exact ⟨x,by simpa using hx,hi⟩) h
       refine ⟨cells',?_,g2,g3,by simpa using g4⟩;rw [Instr.fill];simp only;simp at hxl;rw [if_neg (by simp;omega)];exact g1
      ·cases h
   ·cases h
theorem ziR (hM:Mem P C m w G X) {id:Nat} (hid:m id=.no) {t e:TypeId} {by' sz n:Nat} {parts:Array (Nat × Operand)} {zt:List T} {fs:List (List T)} (ht:zb2 P t=some (e,by',sz)) (hz:zkk P e=some zt) (hzl:zt.length=sz) (hn:n*sz<=16777216) {E:Operand->V}
  (hf:zcA m sz (List.replicate n zt) (parts.toList.map fun p=>(p.1,E p.2))=some fs) (hfz:id ∉ (parts.toList.map fun p=>(p.1,E p.2)).flatMap (fun p=>(bZ p.2).flatMap fz)) {ρ:Operand->Value} {o:Oper} (ho:o.op=.buildSlice t n parts) (hE:∀ x,V.Is G X (E x) (ρ x)) :
  Did P C m G X ((execOp ρ o).run P w) (.ar id) (fzU m ((parts.toList.map fun p=>(p.1,E p.2)).flatMap (fun p=>(bZ p.2).flatMap fz))++[(id,.arr fs e true)]):=by
 obtain ⟨i,z,hu,hi,hzz,hzs,hby,hsz,B0,hs0⟩:=tX ht;generalize hks:(parts.toList.map fun p=>(p.1,E p.2)).flatMap (fun p=>(bZ p.2).flatMap fz)=ks at hfz ⊢;obtain ⟨G1,hG1,hM1⟩:=hM.freezeL ks;unfold zkk at hz;cases hzc:mG P e with
 | none=>rw [hzc] at hz;simp at hz
 | some zs =>
   rw [hzc] at hz;simp only at hz;split at hz
   ·rename_i hpure;have hzV:V.IsL G1 X zs z.cells.toList:=by
     unfold mG at hzc;rw [hi] at hzc;simp [hzz] at hzc;exact ziX G1 X hzc
    obtain ⟨hrows,hsize⟩:=zhs hzV (fun m'=>by rw [zhu m' (fun _=>.no) hpure];exact hz) hM1 hpure (sz:=sz) (by rw [<- hsz];exact hzs) hs0 n;have harows:∀ (parts:List (Nat × V)) (es:List (List T)),zcA (app m (fzU m ks)) sz es parts=zcA m sz es parts:=by
     intro parts;induction parts with
     | nil=>intro es;rfl
     | cons p r ih=>obtain ⟨i,v⟩:=p;intro es;simp only [zcA,zlR,ih]
    rw [<- harows] at hf;obtain ⟨cells,h1,h2,h3,h4⟩:=zkO hM1 (xs:=parts.toList.map fun p=>(p.1,ρ p.2)) hrows (by rw [hsize];simp) (fun r hr=>by rw [List.eq_of_mem_replicate hr];exact hzl) (fun k hk=>by rw [hks] at hk;exact oT _ _ _ (.inr hk)) (by simp)
     (fun j i v hj=>by
      rw [List.getElem?_map] at hj;cases hq:parts.toList[j]? with
      | none=>rw [hq] at hj;simp at hj
      | some p=>rw [hq] at hj;simp at hj;obtain ⟨rfl,rfl⟩:=hj;exact ⟨ρ p.2,by rw [List.getElem?_map,hq];rfl,V.Is.mono hG1 (Xle.refl X) _ _ (hE _)⟩) hf
    have hfn:fs.length=n:=by simpa using h4
    have hno:app m (fzU m ks) id=.no:=by
     have keep:∀ (ks:List Nat) (m:Nat->Ob) (j:Nat),j ∉ ks->app m (fzU m ks) j=m j:=by
      intro ks;induction ks with
      | nil=>intro m j _;rfl
      | cons q ks ih =>
        intro m j hk;simp at hk;unfold fzU;split
        ·rw [app,ih _ _ hk.2,aJ _ _ _ hk.1]
        ·exact ih m j hk.2
     rw [keep _ _ _ hfz];exact hid
    have hmax:fs.length<=maxLen:=by
     have:fs.length<=n*sz:=by rw [hfn];exact Nat.le_mul_of_pos_right _ hs0
     simp only [maxLen];omega
    subst hsz;obtain ⟨hM2,hX2⟩:=hM1.newArr hno cells e i hi fs h2 (by simpa using h3) hmax;refine ⟨.value (.slice (some ⟨w.heap.size,0,none⟩) fs.length fs.length),_,_,G1,_,?_,.inl rfl,hG1,hX2,by rw [mK];exact hM2,by rw [V.Is];exact aE _ _ _⟩;have hbig:¬ (n*i.size > 2 ^ 24):=by omega
    by_cases h0:n*i.size=0
    ·have hn0:n=0:=by rcases Nat.mul_eq_zero.1 h0 with h | h;exact h;omega
     subst hn0;have h1':Instr.fill (fun x=>some (x*i.size,i.size)) #[] (parts.toList.map fun p=>(p.1,ρ p.2))=some cells:=by
      have:=h1;simp only [Nat.zero_mul,Array.range_zero',List.map_toArray,List.map_nil] at this;exact this
     simp only [execOp,ho,Instr.buildSlice,run_underlying hu,sizeOf,typeInfo,hi,Nat.zero_mul,Array.range_zero',Sem.run_bind,Result.andThen_ok,Sem.run_pure,run_program];simp [typeInfo,hi,h1',newRow,hfn]
    ·simp [execOp,ho,Instr.buildSlice,run_underlying hu,sizeOf,typeInfo,zeroValue,hi,hzz,hbig,h0,h1,newRow,hfn]
   ·cases hz
theorem zka (hM:Mem P C m w G X) {id:Nat} (hid:m id=.no) {t e:TypeId} {by' sz:Nat} {zt:List T} (ht:zb2 P t=some (e,by',sz)) (hz:zkk P e=some zt) (hzl:zt.length=sz) {k k':IntKind} {n:Nat} (hn:n*by'<=140737488355328)
  {ρ:Operand->Value} {o:Oper} {x y:Operand} (ho:o.op=.makeSlice t x y) (hx:ρ x=.int k n) (hy:ρ y=.int k' n) :
  Did P C m G X ((execOp ρ o).run P w) (.ar id) [(id,.arr (List.replicate n zt) e true)]:=by
 obtain ⟨i,z,hu,hi,hzz,hzs,hby,hsz,B0,hs0⟩:=tX ht;unfold zkk at hz;cases hzc:mG P e with
 | none=>rw [hzc] at hz;simp at hz
 | some zs =>
   rw [hzc] at hz;simp only at hz;split at hz
   ·rename_i hpure;have hzV:V.IsL G X zs z.cells.toList:=by
     unfold mG at hzc;rw [hi] at hzc;simp [hzz] at hzc;exact ziX G X hzc
    obtain ⟨hrows,hsize⟩:=zhs hzV (fun m'=>by rw [zhu m' (fun _=>.no) hpure];exact hz) hM hpure (sz:=sz) (by rw [<- hsz];exact hzs) hs0 n;have hnb:n<=n*by':=Nat.le_mul_of_pos_right _ B0;have hmax:(List.replicate n zt).length<=maxLen:=by simp only [List.length_replicate,maxLen];omega
    subst hsz;obtain ⟨hM2,hX2⟩:=hM.newArr hid _ e i hi _ hrows (by simp) hmax;refine ⟨.value (.slice (some ⟨w.heap.size,0,none⟩) n n),_,_,G,_,?_,.inl rfl,Gle.refl G,hX2,hM2,by rw [V.Is];simp [aE]⟩;have hw:IntKind.i64.wrap (n:Int)=n:=IntWalk.i64_in _ (by omega);have hneg:¬ ((n:Int) < 0):=by omega
    subst hby;have B2:¬ ((281474976710656:Int) < (i.bytes:Int)*(n:Int)):=by
     have:((i.bytes*n:Nat):Int)<=140737488355328:=by rw [Nat.mul_comm];omega
     rw [Int.natCast_mul] at this;omega
    by_cases h0:n*i.size=0
    ·have hn0:n=0:=by rcases Nat.mul_eq_zero.1 h0 with h | h;exact h;omega
     subst hn0;have hw0:IntKind.i64.wrap 0=0:=by simpa using hw
     simp [execOp,ho,hx,hy,Instr.makeSlice,run_underlying hu,asInt,asIntOf,sizeOf,typeInfo,zeroValue,hi,hzz,hw0,newRow,Array.range_zero']
    ·simp [execOp,ho,hx,hy,Instr.makeSlice,run_underlying hu,asInt,asIntOf,sizeOf,typeInfo,zeroValue,hi,hzz,hw,B2,h0,hneg,newRow]
   ·cases hz
end ops
end Go.Abs
end
section
set_option linter.unusedSimpArgs false
set_option linter.unusedVariables false
namespace Go.Abs
section
variable {P:Program} {G:Im} {w:World}
theorem T.reach_plain:∀ (t:T) (x:Value),T.Is G t x->∀ y,T.reach w t y=[]
 | .sc _,_,_,y=>by cases y<;>rfl
 | .sl _,_,_,y=>by cases y<;>rfl
 | .any,_,_,y=>by cases y<;>rfl
 | .ow _ _,_,h,_=>h.elim
theorem T.reachC_plain:∀ (ts:List T) (l:List Value),T.Cells G ts l->∀ l',T.reachC w ts l'=[]
 | [],_,_,_=>rfl
 | t::ts,l,h,l'=>by
   obtain ⟨⟨c,_,hi⟩,h2⟩:=h;rw [T.reachC,T.reach_plain t c hi,T.reachC_plain ts _ h2];rfl
theorem T.reachR_plain (sz:Nat):∀ (es:List (List T)) (l:List Value),T.Rows G sz es l->∀ l',T.reachR w es l'=[]
 | [],_,_,_=>rfl
 | r::rs,l,h,l'=>by rw [T.reachR,T.reachC_plain r l h.2.1,T.reachR_plain sz rs _ h.2.2];rfl
theorem T.IsO_of:∀ (t:T) (x:Value),T.Is G t x->T.IsO P G w t x
 | .sc _,_,h=>h
 | .sl _,_,h=>h
 | .any,_,h=>h
 | .ow _ _,_,h=>h.elim
theorem T.CellsO_of:∀ (ts:List T) (l:List Value),T.Cells G ts l->T.CellsO P G w ts l
 | [],_,_=>trivial
 | t::ts,l,h=>by
   obtain ⟨⟨c,hc,hi⟩,h2⟩:=h;exact ⟨⟨c,hc,T.IsO_of t c hi⟩,T.CellsO_of ts _ h2⟩
theorem T.RowsO_of (sz:Nat):∀ (es:List (List T)) (l:List Value),T.Rows G sz es l->T.RowsO P G w sz es l
 | [],_,_=>trivial
 | r::rs,l,h=>⟨h.1,T.CellsO_of r l h.2.1,T.RowsO_of sz rs _ h.2.2⟩
def T.plain:T->Bool
 | .sc _ | .sl _=>true
 | _=>false
def zag (es:List (List T)):Bool:=es.all fun r=>r.all T.plain
theorem T.Is_of:∀ (t:T) (x:Value),t.plain=true->T.IsO P G w t x->T.Is G t x
 | .sc _,_,_,h=>h
 | .sl _,_,_,h=>h
 | .any,_,hp,_=>by cases hp
 | .ow _ _,_,hp,_=>by cases hp
theorem T.Cells_of:∀ (ts:List T) (l:List Value),ts.all T.plain=true->T.CellsO P G w ts l->T.Cells G ts l
 | [],_,_,_=>trivial
 | t::ts,l,hp,h=>by
   rw [List.all_cons,Bool.and_eq_true] at hp;obtain ⟨⟨c,hc,hi⟩,h2⟩:=h;exact ⟨⟨c,hc,T.Is_of t c hp.1 hi⟩,T.Cells_of ts _ hp.2 h2⟩
theorem T.Rows_of (sz:Nat):∀ (es:List (List T)) (l:List Value),zag es=true->T.RowsO P G w sz es l->T.Rows G sz es l
 | [],_,_,_=>trivial
 | r::rs,l,hp,h=>by
   unfold zag at hp;rw [List.all_cons,Bool.and_eq_true] at hp;exact ⟨h.1,T.Cells_of r l hp.1 h.2.1,T.Rows_of sz rs _ hp.2 h.2.2⟩
def T.nisO:T->T
 | .sc (.nis e)=>.ow e []
 | t=>t
def T.nisB (P:Program):T->Bool
 | .sc (.nis e)=>(kG P e).isSome
 | .sc _=>true
 | .sl _=>true
 | _=>false
theorem zpw {e:TypeId} (h:(kG P e).isSome=true):∃ i,P.info? e=some i:=by
 unfold kG at h;cases hi:P.info? e with
 | none=>rw [hi] at h;simp at h
 | some i=>exact ⟨i,rfl⟩
theorem T.IsO_nis (t:T) (x:Value) (hb:t.nisB P=true) (h:T.Is G t x):T.IsO P G w t.nisO x/\T.reach w t.nisO x=[]:=by
 cases t with
 | sl es=>exact ⟨T.IsO_of _ _ h,T.reach_plain (.sl es) x h x⟩
 | ow e es=>exact h.elim
 | any=>cases hb
 | sc s =>
   cases s with
   | nis e =>
     obtain ⟨i,hi⟩:=zpw hb;rw [T.Is] at h;subst h;exact ⟨⟨[],i,hi,zbo w e i.size none,trivial,fun a n c h=>by cases h⟩,rfl⟩
   | _=>exact ⟨T.IsO_of _ _ h,T.reach_plain _ x h x⟩
theorem T.CellsO_nis:∀ (ts:List T) (l:List Value),ts.all (T.nisB P)=true->T.Cells G ts l->T.CellsO P G w (ts.map T.nisO) l/\T.reachC w (ts.map T.nisO) l=[]
 | [],_,_,_=>⟨trivial,rfl⟩
 | t::ts,l,hb,h=>by
   rw [List.all_cons,Bool.and_eq_true] at hb;obtain ⟨⟨c,hc,hi⟩,h2⟩:=h;have h1:=T.IsO_nis (P:=P) (w:=w) t c hb.1 hi;have h3:=T.CellsO_nis ts _ hb.2 h2;refine ⟨⟨⟨c,hc,h1.1⟩,h3.1⟩,?_⟩;rw [List.map_cons,T.reachC,List.getD_eq_getElem?_getD,hc,Option.getD_some,h1.2,h3.2];rfl
theorem T.RowsO_nis (sz:Nat):∀ (es:List (List T)) (l:List Value),(es.all fun r=>r.all (T.nisB P))=true->T.Rows G sz es l->T.RowsO P G w sz (es.map (·.map T.nisO)) l/\T.reachR w (es.map (·.map T.nisO)) l=[]
 | [],_,_,_=>⟨trivial,rfl⟩
 | r::rs,l,hb,h=>by
   rw [List.all_cons,Bool.and_eq_true] at hb;have h1:=T.CellsO_nis (P:=P) (w:=w) r l hb.1 h.2.1;have h3:=T.RowsO_nis sz rs _ hb.2 h.2.2;refine ⟨⟨by rw [List.length_map];exact h.1,h1.1,h3.1⟩,?_⟩;rw [List.map_cons,T.reachR,h1.2,List.length_map,h.1,h3.2];rfl
theorem T.reach_any (y:Value):T.reach w .any y=[]:=by cases y<;>rfl
theorem T.reachC_set:∀ (ts:List T) (l:List Value) (j:Nat) (t:T),ts[j]?=some t->(T.reachC w ts l).Perm (T.reach w t (l.getD j .nilIface)++T.reachC w (ts.set j .any) l)
 | [],_,_,_,h=>by simp at h
 | t0::ts,l,0,t,h=>by
   have e:t0=t:=by simpa using h
   subst e;rw [List.set_cons_zero,T.reachC,T.reachC,T.reach_any,List.nil_append]
 | t0::ts,l,j+1,t,h=>by
   have h':ts[j]?=some t:=by simpa using h
   have ih:=T.reachC_set ts (l.drop 1) j t h';rw [List.set_cons_succ,T.reachC,T.reachC];have e:(l.drop 1).getD j .nilIface=l.getD (j+1) .nilIface:=by
    rw [List.getD_eq_getElem?_getD,List.getD_eq_getElem?_getD,List.getElem?_drop,Nat.add_comm]
   rw [e] at ih;refine (List.Perm.append_left _ ih).trans ?_;rw [<- List.append_assoc,<- List.append_assoc];exact List.Perm.append_right _ List.perm_append_comm
theorem T.reachR_set (sz:Nat):∀ (es:List (List T)) (l:List Value) (i j:Nat) (r:List T) (t:T),(∀ r∈es,r.length=sz)->es[i]?=some r->r[j]?=some t ->
  (T.reachR w es l).Perm (T.reach w t (l.getD (i*sz+j) .nilIface)++T.reachR w (es.set i (r.set j .any)) l)
 | [],_,_,_,_,_,_,h,_=>by simp at h
 | r0::rs,l,0,j,r,t,hl,h,hj=>by
   have e:r0=r:=by simpa using h
   subst e;rw [List.set_cons_zero,T.reachR,T.reachR,List.length_set,Nat.zero_mul,Nat.zero_add,<- List.append_assoc];exact List.Perm.append_right _ (T.reachC_set r0 l j t hj)
 | r0::rs,l,i+1,j,r,t,hl,h,hj=>by
   have h':rs[i]?=some r:=by simpa using h
   have hr0:=hl r0 (by simp);have ih:=T.reachR_set sz rs (l.drop r0.length) i j r t (fun x hx=>hl x (by simp [hx])) h' hj;rw [List.set_cons_succ,T.reachR,T.reachR];have e:(l.drop r0.length).getD (i*sz+j) .nilIface=l.getD ((i+1)*sz+j) .nilIface:=by
    rw [List.getD_eq_getElem?_getD,List.getD_eq_getElem?_getD,List.getElem?_drop,hr0,Nat.succ_mul];congr 2;omega
   rw [e] at ih;refine (List.Perm.append_left _ ih).trans ?_;rw [<- List.append_assoc,<- List.append_assoc];exact List.Perm.append_right _ List.perm_append_comm
theorem T.RowsO.len {sz:Nat}:∀ {es:List (List T)} {l:List Value},T.RowsO P G w sz es l->∀ r∈es,r.length=sz
 | r0::rs,l,h,r,hr=>by
   rcases List.mem_cons.1 hr with rfl | hr
   ·exact h.1
   ·exact T.RowsO.len h.2.2 r hr
theorem T.CellsO.get:∀ {ts:List T} {l:List Value},T.CellsO P G w ts l->∀ (j:Nat) (t:T),ts[j]?=some t->∃ x,l[j]?=some x/\T.IsO P G w t x
 | [],l,h,j,t,ht=>by simp at ht
 | t0::ts,l,h,0,t,ht=>by
   obtain ⟨⟨c,hc,hi⟩,_⟩:=h;have e:t0=t:=by simpa using ht
   subst e;exact ⟨c,hc,hi⟩
 | t0::ts,l,h,j+1,t,ht=>by
   obtain ⟨x,hx,hi⟩:=T.CellsO.get h.2 j t (by simpa using ht);rw [List.getElem?_drop,Nat.add_comm] at hx;exact ⟨x,hx,hi⟩
theorem T.RowsO.get {sz:Nat}:∀ {es:List (List T)} {l:List Value},T.RowsO P G w sz es l->∀ (i j:Nat) (r:List T) (t:T),es[i]?=some r->r[j]?=some t->∃ x,l[i*sz+j]?=some x/\T.IsO P G w t x
 | [],_,_,_,_,_,_,h,_=>by simp at h
 | r0::rs,l,h,0,j,r,t,hi,hj=>by
   have e:r0=r:=by simpa using hi
   subst e;rw [Nat.zero_mul,Nat.zero_add];exact T.CellsO.get h.2.1 j t hj
 | r0::rs,l,h,i+1,j,r,t,hi,hj=>by
   obtain ⟨x,hx,hy⟩:=T.RowsO.get h.2.2 i j r t (by simpa using hi) hj;rw [List.getElem?_drop] at hx;refine ⟨x,?_,hy⟩;rw [Nat.succ_mul,<- hx];congr 1;omega
theorem T.CellsO.set_any:∀ {ts:List T} {l:List Value} (j:Nat),(∀ t x,T.IsO P G w t x->x.oneCell'=true)->T.CellsO P G w ts l->T.CellsO P G w (ts.set j .any) l
 | [],_,_,_,h=>h
 | t0::ts,l,0,ho,h=>by
   obtain ⟨⟨c,hc,hi⟩,h2⟩:=h;exact ⟨⟨c,hc,ho _ _ hi⟩,h2⟩
 | t0::ts,l,j+1,ho,h=>⟨h.1,T.CellsO.set_any j ho h.2⟩
theorem T.RowsO.set_any {sz:Nat}:∀ {es:List (List T)} {l:List Value} (i j:Nat) (r:List T),es[i]?=some r->(∀ t x,T.IsO P G w t x->x.oneCell'=true)->T.RowsO P G w sz es l->T.RowsO P G w sz (es.set i (r.set j .any)) l
 | [],_,_,_,_,h,_,_=>by simp at h
 | r0::rs,l,0,j,r,hi,ho,h=>by
   have e:r0=r:=by simpa using hi
   subst e;exact ⟨by rw [List.length_set];exact h.1,T.CellsO.set_any j ho h.2.1,h.2.2⟩
 | r0::rs,l,i+1,j,r,hi,ho,h=>⟨h.1,h.2.1,T.RowsO.set_any i j r (by simpa using hi) ho h.2.2⟩
theorem T.IsO.one:∀ (t:T) (x:Value),T.IsO P G w t x->x.oneCell'=true
 | .sc s,x,h=>by rw [T.IsO] at h;subst h;exact s.v_one
 | .sl es,x,h=>T.Is.one (t:=.sl es) h
 | .any,x,h=>h
 | .ow e es,x,h=>by
   obtain ⟨xs,i,_,hown,_⟩:=h;rcases bP hown with ⟨⟨A,rfl⟩,_⟩ | ⟨g,cap,cur,rfl,_⟩<;>rfl
theorem T.CellsO.set:∀ {ts:List T} {l:List Value} (j:Nat) {t:T} {y:Value},T.IsO P G w t y->T.CellsO P G w ts l->T.CellsO P G w (ts.set j t) (l.set j y)
 | [],_,_,_,_,_,h=>by rw [List.set_nil];trivial
 | t0::ts,[],_,_,_,_,h=>by obtain ⟨⟨c,hc,_⟩,_⟩:=h;simp at hc
 | t0::ts,c0::cs,0,t,y,hy,h=>⟨⟨y,rfl,hy⟩,h.2⟩
 | t0::ts,c0::cs,j+1,t,y,hy,h=>⟨h.1,T.CellsO.set (l:=cs) j hy h.2⟩
theorem T.CellsO.agree:∀ {ts:List T} {l l':List Value},(∀ p,p < ts.length->l'[p]?=l[p]?)->T.CellsO P G w ts l->T.CellsO P G w ts l'
 | [],_,_,_,_=>trivial
 | t0::ts,l,l',ha,h=>by
   obtain ⟨⟨c,hc,hi⟩,h2⟩:=h;refine ⟨⟨c,by rw [ha 0 (by simp)];exact hc,hi⟩,T.CellsO.agree (fun p hp=>?_) h2⟩;rw [List.getElem?_drop,List.getElem?_drop];exact ha (1+p) (by simp;omega)
theorem T.RowsO.set {sz:Nat}:∀ {es:List (List T)} {l:List Value} (i j:Nat) (r:List T) {t:T} {y:Value},es[i]?=some r->j < sz->T.IsO P G w t y->T.RowsO P G w sz es l->T.RowsO P G w sz (es.set i (r.set j t)) (l.set (i*sz+j) y)
 | [],_,_,_,_,_,_,h,_,_,_=>by simp at h
 | r0::rs,l,0,j,r,t,y,hi,hj,hy,h=>by
   have e:r0=r:=by simpa using hi
   subst e;rw [Nat.zero_mul,Nat.zero_add,List.set_cons_zero];refine ⟨by rw [List.length_set];exact h.1,T.CellsO.set j hy h.2.1,?_⟩;rw [List.drop_set,if_pos hj];exact h.2.2
 | r0::rs,l,i+1,j,r,t,y,hi,hj,hy,h=>by
   rw [List.set_cons_succ];have e:(i+1)*sz+j=sz+(i*sz+j):=by rw [Nat.succ_mul];omega
   refine ⟨h.1,T.CellsO.agree (fun p hp=>?_) h.2.1,?_⟩
   ·rw [List.getElem?_set,if_neg (by rw [h.1] at hp;omega)]
   ·rw [e,List.drop_set,if_neg (by omega),Nat.add_sub_cancel_left];exact T.RowsO.set i j r (by simpa using hi) hj hy h.2.2
theorem T.reachC_agree:∀ (ts:List T) (l l':List Value),(∀ (p:Nat) (t:T),ts[p]?=some t->t≠.any->l'[p]?=l[p]?)->T.reachC w ts l'=T.reachC w ts l
 | [],_,_,_=>rfl
 | t0::ts,l,l',ha=>by
   rw [T.reachC,T.reachC];have h2:T.reachC w ts (l'.drop 1)=T.reachC w ts (l.drop 1):=T.reachC_agree ts _ _ (fun p t hp ht=>by
    rw [List.getElem?_drop,List.getElem?_drop,Nat.add_comm];exact ha (p+1) t (by simpa using hp) ht)
   rw [h2];congr 1;by_cases h0:t0=.any
   ·subst h0;rw [T.reach_any,T.reach_any]
   ·rw [List.getD_eq_getElem?_getD,List.getD_eq_getElem?_getD,ha 0 t0 rfl h0]
theorem T.reachR_agree (sz:Nat):∀ (es:List (List T)) (l l':List Value),(∀ r∈es,r.length=sz)->(∀ (i j:Nat) (r:List T) (t:T),es[i]?=some r->r[j]?=some t->t≠.any->l'[i*sz+j]?=l[i*sz+j]?)->T.reachR w es l'=T.reachR w es l
 | [],_,_,_,_=>rfl
 | r0::rs,l,l',hl,ha=>by
   have hr0:=hl r0 (by simp);rw [T.reachR,T.reachR];rw [T.reachC_agree r0 l l' (fun p t hp ht=>by have:=ha 0 p r0 t rfl hp ht;rwa [Nat.zero_mul,Nat.zero_add] at this)];rw [T.reachR_agree sz rs (l.drop r0.length) (l'.drop r0.length) (fun r hr=>hl r (by simp [hr])) (fun i j r t hi hj ht=>by
    rw [List.getElem?_drop,List.getElem?_drop,hr0];have:=ha (i+1) j r t (by simpa using hi) hj ht;rw [show sz+(i*sz+j)=(i+1)*sz+j by rw [Nat.succ_mul];omega];exact this)]
theorem T.RowsO.append {sz:Nat}:∀ {es fs:List (List T)} {l news:List Value},l.length=es.length*sz->T.RowsO P G w sz es l->T.RowsO P G w sz fs news->T.RowsO P G w sz (es++fs) (l++news)
 | [],fs,l,news,hl,_,h=>by
   have:l=[]:=List.eq_nil_of_length_eq_zero (by simpa using hl);subst this;exact h
 | r::rs,fs,l,news,hl,h,h2=>by
   rw [List.length_cons,Nat.succ_mul] at hl;refine ⟨h.1,T.CellsO.agree (fun p hp=>?_) h.2.1,?_⟩
   ·rw [List.getElem?_append_left (by rw [h.1] at hp;omega)]
   ·rw [List.drop_append_of_le_length (by omega)];exact T.RowsO.append (by rw [List.length_drop];omega) h.2.2 h2
theorem T.reachR_append (sz:Nat):∀ (es fs:List (List T)) (l:List Value),(∀ r∈es,r.length=sz)->T.reachR w (es++fs) l=T.reachR w es l++T.reachR w fs (l.drop (es.length*sz))
 | [],fs,l,_=>by simp [T.reachR]
 | r::rs,fs,l,h=>by
   have hr:=h r (by simp);rw [List.cons_append,T.reachR,T.reachR,T.reachR_append sz rs fs _ (fun x hx=>h x (by simp [hx])),List.append_assoc,List.drop_drop,hr,List.length_cons,Nat.succ_mul];rw [Nat.add_comm sz (rs.length*sz)]
theorem zs4 {sz i j n:Nat} (hi:i < n) (hj:j < sz):i*sz+j < n*sz:=by
 have:=Nat.mul_le_mul_right sz (show i+1<=n from hi);rw [Nat.succ_mul] at this;omega
theorem T.reachR_pre (sz:Nat) {es:List (List T)} {l l':List Value} (hl:∀ r∈es,r.length=sz) (h:∀ p,p < es.length*sz->l'[p]?=l[p]?):T.reachR w es l'=T.reachR w es l :=
 T.reachR_agree sz es l l' hl (fun i j r t hi hj _=>h _ (zs4 (List.getElem?_eq_some_iff.1 hi).1 (by rw [<- hl r (List.mem_of_getElem? hi)];exact (List.getElem?_eq_some_iff.1 hj).1)))
theorem zqu {sz i j i' j':Nat} (hj:j < sz) (hj':j' < sz) (h:i'*sz+j'=i*sz+j):i'=i/\j'=j:=by
 rcases Nat.lt_trichotomy i' i with h1 | h1 | h1
 ·have:=Nat.mul_le_mul_right sz (show i'+1<=i from h1);rw [Nat.succ_mul] at this;omega
 ·subst h1;exact ⟨rfl,by omega⟩
 ·have:=Nat.mul_le_mul_right sz (show i+1<=i' from h1);rw [Nat.succ_mul] at this;omega
end
section
variable {P:Program} {C:Cx} {n:Nat} {s:Nat->V} {m:Nat->Ob} {w:World} {G:Im} {X:Xm}
theorem Mem.less2 (h:Mem P C m w G X) (k:Nat) (o':Ob) (hok:∀ x,X k=some x->Ob.Ok P G X w (m k) x->Ob.Ok P G X w o' x/\∀ b,o'.has w x b->(m k).has w x b) (hno:o'=.no↔m k=.no):Mem P C (upd m k o') w G X:=by
 have hb:∀ j x b,X j=some x->(upd m k o' j).has w x b->(m j).has w x b:=fun j x b hx hj=>by
  by_cases h1:j=k
  ·subst h1;rw [aE] at hj;exact (hok x hx (h.ob j x hx)).2 b hj
  ·rwa [aJ _ _ _ h1] at hj
 refine ⟨h.gle,h.gold,h.gok,h.keeps,?_,?_,fun j j' x x' b hx hx' h1 h2=>h.apart j j' x x' b hx hx' (hb j x b hx h1) (hb j' x' b hx' h2),fun j x b hx h1=>h.mine j x b hx (hb j x b hx h1),h.cell,h.old⟩
 ·intro j x hx;by_cases h1:j=k
  ·subst h1;rw [aE];exact (hok x hx (h.ob j x hx)).1
  ·rw [aJ _ _ _ h1];exact h.ob j x hx
 ·intro j;by_cases h1:j=k
  ·subst h1;rw [aE,hno];exact h.free j
  ·rw [aJ _ _ _ h1];exact h.free j
def zqt:Value->List Nat
 | .slice (some a) _ (_+1)=>[a.block]
 | _=>[]
theorem lC {w:World} (t:T) (A:Option Addr) (n:Nat):T.reach w t (.slice A n 0)=[]:=by cases t<;>cases A<;>rfl
theorem Mem.toDar (hM:Mem P C m w G X) {k:Nat} {es:List (List T)} {e:TypeId} (hm:m k=.arr es e true):Mem P C (upd m k (.dar es e)) w G X:=by
 refine Mem.less2 hM k (.dar es e) (fun x hx hok=>?_) ⟨fun h=>by simp at h,fun h=>by rw [hm] at h;cases h⟩;rw [hm] at hok ⊢;obtain ⟨xs,i,hi,hown,hr,hn⟩:=hok;have hre:T.reach w (.ow e es) x=zqt x:=by
  rcases bP hown with ⟨⟨A,rfl⟩,_⟩ | ⟨g,cap,cur,rfl,_⟩
  ·rw [lC];cases A<;>rfl
  ·rw [T.reach,T.reachR_plain i.size es xs hr];rfl
 refine ⟨⟨⟨xs,i,hi,hown,T.RowsO_of i.size es xs hr,fun a n c hx=>by simpa using hn a n c hx⟩,?_⟩,fun b hb=>?_⟩
 ·rw [hre];cases x<;>first | exact List.nodup_nil | (rename_i a _ c;cases a<;>cases c<;>simp [zqt])
 ·replace hb:b∈T.reach w (.ow e es) x:=by
   cases x<;>first | exact hb | (rename_i a _ _;cases a<;>exact hb)
  rw [hre] at hb;rcases bP hown with ⟨⟨A,rfl⟩,_⟩ | ⟨g,cap,cur,rfl,_⟩
  ·cases A<;>cases hb
  ·exact List.mem_singleton.1 hb
theorem Mem.takeLeaf (hM:Mem P C m w G X) {k d:Nat} {es:List (List T)} {e:TypeId} {x:Value} (hm:m k=.dar es e) (hx:X k=some x) (hd:m d=.no)
  {i j:Nat} {r:List T} {e':TypeId} {es':List (List T)} (hi:es[i]?=some r) (hj:r[j]?=some (.ow e' es')) (hp:zag es'=true) :
  ∃ y inf g n c,P.info? e=some inf/\x=.slice (some ⟨g,0,none⟩) n c/\(cellsOf w g)[i*inf.size+j]?=some y/\Xle X (upd X d (some y)) /\
    Mem P C (upd (upd m k (.dar (es.set i (r.set j .any)) e)) d (.arr es' e' true)) w G (upd X d (some y)):=by
 have ho:=hM.ob k x hx;rw [hm] at ho;obtain ⟨⟨xs,inf,hinf,hown,hr,hn⟩,hnd⟩:=ho;have hil:i < es.length:=(List.getElem?_eq_some_iff.1 hi).1;have hown0:=hown;rcases bP hown with ⟨_,h0,_⟩ | ⟨g,cap,cur,rfl,hg,hlt,h4,h5,h6,h7,hsub⟩
 ·omega
 obtain ⟨y,hy,hyo⟩:=T.RowsO.get hr i j r _ hi hj;have hyc:=hsub _ _ hy;have hperm:=T.reachR_set (w:=w) inf.size es (cellsOf w g) i j r _ (T.RowsO.len hr) hi hj;rw [List.getD_eq_getElem?_getD,hyc,Option.getD_some] at hperm;rw [T.reach] at hnd;obtain ⟨hgn,hnd2⟩:=List.nodup_cons.1 hnd;have hnd3:=hperm.nodup_iff.1 hnd2;obtain ⟨_,n2,n3⟩:=List.nodup_append.1 hnd3;have hXd:X d=none:=(hM.free d).2 hd;have hkd:k≠d:=by rintro rfl;rw [hx] at hXd;cases hXd
 have hle:=jO (X:=X) (k:=d) (x:=y) hXd;have hkhas:∀ b,b=g∨b∈T.reachR w es (cellsOf w g)->(m k).has w (.slice (some ⟨g,0,none⟩) es.length (cap+1)) b:=fun b hb=>by
  rw [hm];show b∈T.reach w (.ow e es) _
  rw [T.reach];exact List.mem_cons.2 hb
 have hyk:∀ b,b∈T.reach w (.ow e' es') y->(m k).has w (.slice (some ⟨g,0,none⟩) es.length (cap+1)) b:=fun b hb=>hkhas b (.inr (hperm.mem_iff.2 (List.mem_append_left _ hb)))
 have hsk:∀ b,b=g∨b∈T.reachR w (es.set i (r.set j .any)) (cellsOf w g)->(m k).has w (.slice (some ⟨g,0,none⟩) es.length (cap+1)) b:=fun b hb=>hkhas b (hb.imp id fun hb=>hperm.mem_iff.2 (List.mem_append_right _ hb))
 have hmd:upd (upd m k (.dar (es.set i (r.set j .any)) e)) d (.arr es' e' true) d=.arr es' e' true:=aE _ _ _;have hmk:upd (upd m k (.dar (es.set i (r.set j .any)) e)) d (.arr es' e' true) k=.dar (es.set i (r.set j .any)) e:=by rw [aJ _ _ _ hkd,aE]
 have hmo:∀ k1,k1≠d->k1≠k->upd (upd m k (.dar (es.set i (r.set j .any)) e)) d (.arr es' e' true) k1=m k1:=fun k1 h1 h2=>by rw [aJ _ _ _ h1,aJ _ _ _ h2]
 have hf:∀ k1 x1 b,upd X d (some y) k1=some x1->(upd (upd m k (.dar (es.set i (r.set j .any)) e)) d (.arr es' e' true) k1).has w x1 b ->
   (k1=d/\b∈T.reach w (.ow e' es') y)∨(k1=k/\(b=g∨b∈T.reachR w (es.set i (r.set j .any)) (cellsOf w g)))∨(k1≠d/\k1≠k/\X k1=some x1/\(m k1).has w x1 b):=by
  intro k1 x1 b h1 hb;by_cases e1:k1=d
  ·subst e1;rw [aE] at h1;cases h1;rw [hmd] at hb;obtain ⟨a,n',c',rfl,rfl⟩:=Ob.has_arr'.1 hb;exact .inl ⟨rfl,by rw [T.reach];simp⟩
  ·rw [aJ _ _ _ e1] at h1;by_cases e2:k1=k
   ·subst e2;rw [hx] at h1;cases h1;rw [hmk] at hb;replace hb:b∈T.reach w (.ow e (es.set i (r.set j .any))) (.slice (some ⟨g,0,none⟩) es.length (cap+1)):=hb;rw [T.reach] at hb;exact .inr (.inl ⟨rfl,List.mem_cons.1 hb⟩)
   ·rw [hmo k1 e1 e2] at hb;exact .inr (.inr ⟨e1,e2,h1,hb⟩)
 refine ⟨y,inf,g,es.length,cap+1,hinf,rfl,hyc,hle,hM.gle,hM.gold,hM.gok,hM.keeps,?_,?_,?_,?_,?_,fun k1 z hk=>hle k1 z (hM.old k1 z hk)⟩
 ·intro k1 x1 h1;by_cases e1:k1=d
  ·subst e1;rw [aE] at h1;cases h1;rw [hmd];obtain ⟨xs',inf',hinf',hown',hr',hn'⟩:=hyo;exact ⟨xs',inf',hinf',hown',T.Rows_of inf'.size es' xs' hp hr',fun a n' c' ha=>by simpa using hn' a n' c' ha⟩
  ·rw [aJ _ _ _ e1] at h1;by_cases e2:k1=k
   ·subst e2;rw [hx] at h1;cases h1;rw [hmk];refine ⟨⟨xs,inf,hinf,by rw [List.length_set];exact hown0,T.RowsO.set_any i j r hi T.IsO.one hr,hn⟩,?_⟩;rw [T.reach];exact List.nodup_cons.2 ⟨fun h=>hgn (hperm.mem_iff.2 (List.mem_append_right _ h)),n2⟩
   ·rw [hmo k1 e1 e2];exact (hM.ob k1 x1 h1).mono (Gle.refl G) hle (fun _ _=>rfl) (fun _ _=>rfl)
 ·intro k1;by_cases e1:k1=d
  ·subst e1;rw [hmd,aE];simp
  ·rw [aJ _ _ _ e1];by_cases e2:k1=k
   ·subst e2;rw [hmk,hx];simp
   ·rw [hmo k1 e1 e2];exact hM.free k1
 ·intro k1 k2 x1 x2 b h1 h2 B1 B2;rcases hf k1 x1 b h1 B1 with ⟨rfl,q1⟩ | ⟨rfl,q1⟩ | ⟨a1,a2,q1,q2⟩<;>rcases hf k2 x2 b h2 B2 with ⟨e2,p1⟩ | ⟨e2,p1⟩ | ⟨b1,b2,p1,p2⟩
  ·exact e2.symm
  ·rcases p1 with rfl | p1
   ·exact absurd (hperm.mem_iff.2 (List.mem_append_left _ q1)) hgn
   ·exact absurd rfl (n3 b q1 b p1)
  ·exact absurd (hM.apart _ _ _ _ b hx p1 (hyk b q1) p2).symm b2
  ·rcases q1 with rfl | q1
   ·exact absurd (hperm.mem_iff.2 (List.mem_append_left _ p1)) hgn
   ·exact absurd rfl (n3 b p1 b q1)
  ·exact e2.symm
  ·exact absurd (hM.apart _ _ _ _ b hx p1 (hsk b q1) p2).symm b2
  ·exact absurd (hM.apart _ _ _ _ b hx q1 (hyk b p1) q2).symm a2
  ·exact absurd (hM.apart _ _ _ _ b hx q1 (hsk b p1) q2).symm a2
  ·exact hM.apart _ _ _ _ b q1 p1 q2 p2
 ·intro k1 x1 b h1 B1;rcases hf k1 x1 b h1 B1 with ⟨_,q1⟩ | ⟨_,q1⟩ | ⟨_,_,q1,q2⟩
  ·exact hM.mine _ _ _ hx (hyk b q1)
  ·exact hM.mine _ _ _ hx (hsk b q1)
  ·exact hM.mine _ _ _ q1 q2
 ·intro k1 x1 h1;by_cases e1:k1=d
  ·subst e1;rw [aE] at h1;cases h1;exact T.IsO.one _ _ hyo
  ·rw [aJ _ _ _ e1] at h1;exact hM.cell _ _ h1
theorem Mem.putLeaf (hM:Mem P C m w G X) {k d:Nat} {es:List (List T)} {e:TypeId} {g n c:Nat} {y:Value} {cur:Array Value} {inf:TypeInfo} (hm:m k=.dar es e) (hx:X k=some (.slice (some ⟨g,0,none⟩) n c)) (hinf:P.info? e=some inf)
  {i j:Nat} {r:List T} {e':TypeId} {es':List (List T)} (hd:m d=.arr es' e' true) (hXd:X d=some y) (hi:es[i]?=some r) (hj:r[j]?=some .any) (hw:w.heap[g]?=some (.cells cur e (0,0))) :
  Mem P C (upd (upd m d .dead) k (.dar (es.set i (r.set j (.ow e' es'))) e)) (w.setRow g (cur.toList.set (i*inf.size+j) y).toArray) G X:=by
 have ho:=hM.ob k _ hx;rw [hm] at ho;obtain ⟨⟨xs,inf1,hinf1,hown,hr,hn⟩,hnd⟩:=ho;rw [hinf] at hinf1;cases hinf1;have hil:i < es.length:=(List.getElem?_eq_some_iff.1 hi).1;have hown0:=hown;rcases bP hown with ⟨_,h00,_⟩ | ⟨g1,cap,cur1,h0,hg,hlt,h4,h5,h6,h7,hsub⟩
 ·omega
 cases h0;rw [hw] at hg;cases hg;have hcel:cellsOf w g=cur.toList:=gV hw;have hGg:G g=none:=hn _ _ _ rfl;have hrl:r.length=inf.size:=T.RowsO.len hr r (List.mem_of_getElem? hi);have hjl:j < inf.size:=by rw [<- hrl];exact (List.getElem?_eq_some_iff.1 hj).1
 have hkd:k≠d:=by rintro rfl;rw [hm] at hd;cases hd
 have hod:=hM.ob d y hXd;rw [hd] at hod;obtain ⟨ys,inf',hinf',hown',hr',hn'⟩:=hod
 -- the leaf
 have hleaf:T.IsO P G w (.ow e' es') y:=⟨ys,inf',hinf',hown',T.RowsO_of inf'.size es' ys hr',fun a n c h=>by simpa using hn' a n c h⟩
 have hreach:∀ (w1:World) b,b∈T.reach w1 (.ow e' es') y->(m d).has w y b:=fun w1 b hb=>by
  rcases bP hown' with ⟨⟨A,rfl⟩,_⟩ | ⟨g2,cap2,cur2,rfl,_⟩
  ·rw [lC] at hb;cases hb
  ·rw [T.reach,T.reachR_plain inf'.size es' ys hr'] at hb;rw [hd];exact List.mem_singleton.1 hb
 have hkhas:∀ b,b=g∨b∈T.reachR w es (cellsOf w g)->(m k).has w (.slice (some ⟨g,0,none⟩) es.length (cap+1)) b:=fun b hb=>by
  rw [hm];show b∈T.reach w (.ow e es) _
  rw [T.reach];exact List.mem_cons.2 hb
 have hdg:∀ b,(m d).has w y b->b≠g:=fun b hb h=>hkd (hM.apart k d _ _ b hx hXd (hkhas b (.inl h)) hb)
 rw [T.reach] at hnd;obtain ⟨hgn,hnd2⟩:=List.nodup_cons.1 hnd;generalize hw':w.setRow g (cur.toList.set (i*inf.size+j) y).toArray=w';have hoth:∀ b,b≠g->w'.heap[b]?=w.heap[b]?:=fun b hb=>by rw [<- hw'];exact setRow_other w g b _ hb
 have hwg:w'.heap[g]?=some (.cells (cur.toList.set (i*inf.size+j) y).toArray e (0,0)):=by rw [<- hw'];exact setRow_heap w g cur _ e _ hw
 have hcel':cellsOf w' g=cur.toList.set (i*inf.size+j) y:=by rw [gV hwg]
 have hRc:=T.RowsO.congr (Gle.refl G) (w':=w') inf.size es (cellsOf w g) (fun b hb=>⟨hoth b (fun h=>hgn (h ▸ hb)),rfl⟩) (T.RowsO.sub inf.size es _ _ hsub hr);have hR':=T.RowsO.restrict inf.size es xs (cellsOf w g) hsub hr hRc.1;have hleaf':=T.IsO.congr (Gle.refl G) (w':=w') (.ow e' es') y (fun b hb=>⟨hoth b (hdg b (hreach w b hb)),rfl⟩) hleaf;have hRn:=T.RowsO.set i j r hi hjl hleaf'.1 hR';have hxl:xs.length=es.length*inf.size:=hown.1
 -- what it reaches
 have hri:r.set j .any=r:=by
  apply List.ext_getElem?;intro p;rw [List.getElem?_set];split
  ·rename_i h;subst h;rw [hj];simp [hrl,hjl]
  ·rfl
 have hes:(es.set i (r.set j (.ow e' es'))).set i ((r.set j (.ow e' es')).set j .any)=es:=by
  rw [List.set_set,List.set_set,hri];apply List.ext_getElem?;intro p;rw [List.getElem?_set];split
  ·rename_i h;subst h;rw [hi]
  ·rfl
 have hperm:=T.reachR_set (w:=w') inf.size (es.set i (r.set j (.ow e' es'))) (cellsOf w' g) i j (r.set j (.ow e' es')) (.ow e' es') (T.RowsO.len hRn) (by rw [List.getElem?_set];simp [hil]) (by rw [List.getElem?_set];simp [hrl,hjl]);have hpl:i*inf.size+j < cur.toList.length:=by
  have h1:(i+1)*inf.size<=es.length*inf.size:=Nat.mul_le_mul_right _ (by omega);have h2:es.length*inf.size<=(cap+1)*inf.size:=Nat.mul_le_mul_right _ h4;rw [Nat.succ_mul] at h1;simp only [Array.length_toList];omega
 have hget:(cellsOf w' g).getD (i*inf.size+j) .nilIface=y:=by
  rw [hcel',List.getD_eq_getElem?_getD,List.getElem?_set];simp [show i*inf.size+j < cur.size by simpa using hpl]
 have hsame:T.reachR w' es (cellsOf w' g)=T.reachR w es (cellsOf w g):=by
  rw [<- hRc.2];refine T.reachR_agree inf.size es _ _ (T.RowsO.len hr) (fun i' j' r' t' hi' hj' ht'=>?_);rw [hcel',hcel,List.getElem?_set,if_neg];intro he;have hj'l:j' < inf.size:=by rw [<- T.RowsO.len hr r' (List.mem_of_getElem? hi')];exact (List.getElem?_eq_some_iff.1 hj').1
  obtain ⟨rfl,rfl⟩:=zqu hj'l hjl he;rw [hi] at hi';cases hi';rw [hj] at hj';cases hj';exact ht' rfl
 rw [hget,hes,hsame,hleaf'.2] at hperm;have hyk:∀ b,b∈T.reach w (.ow e' es') y->(m d).has w y b:=fun b hb=>hreach w b hb
 have hmd:upd (upd m d .dead) k (.dar (es.set i (r.set j (.ow e' es'))) e) d=.dead:=by rw [aJ _ _ _ hkd.symm,aE]
 have hmk:upd (upd m d .dead) k (.dar (es.set i (r.set j (.ow e' es'))) e) k=.dar (es.set i (r.set j (.ow e' es'))) e:=aE _ _ _;have hmo:∀ k1,k1≠d->k1≠k->upd (upd m d .dead) k (.dar (es.set i (r.set j (.ow e' es'))) e) k1=m k1:=fun k1 h1 h2=>by rw [aJ _ _ _ h2,aJ _ _ _ h1]
 have hng:∀ k1 x1,k1≠k->X k1=some x1->∀ b,(m k1).has w x1 b->b≠g:=fun k1 x1 h1 hx1 b hb h=>h1 (hM.apart k1 k x1 _ b hx1 hx hb (hkhas b (.inl h)))
 have hf:∀ k1 x1 b,X k1=some x1->(upd (upd m d .dead) k (.dar (es.set i (r.set j (.ow e' es'))) e) k1).has w' x1 b ->
   (k1=k/\(b∈T.reach w (.ow e' es') y∨(b=g∨b∈T.reachR w es (cellsOf w g))))∨(k1≠d/\k1≠k/\(m k1).has w x1 b):=by
  intro k1 x1 b h1 hb;by_cases e1:k1=d
  ·subst e1;rw [hmd] at hb;exact (Ob.has_dead hb).elim
  ·by_cases e2:k1=k
   ·subst e2;rw [hx] at h1;cases h1;rw [hmk] at hb;replace hb:b∈T.reach w' (.ow e (es.set i (r.set j (.ow e' es')))) (.slice (some ⟨g,0,none⟩) es.length (cap+1)):=hb;rw [T.reach] at hb;refine .inl ⟨rfl,?_⟩;rcases List.mem_cons.1 hb with hb | hb
    ·exact .inr (.inl hb)
    ·rcases List.mem_append.1 (hperm.mem_iff.1 hb) with hb | hb
     ·exact .inl hb
     ·exact .inr (.inr hb)
   ·rw [hmo k1 e1 e2] at hb;exact .inr ⟨e1,e2,(Ob.has_congr (fun b hb=>hoth b (hng k1 x1 e2 h1 b hb)) (hM.ob k1 x1 h1) b).1 hb⟩
 refine ⟨hM.gle,hM.gold,by rw [<- hw'];exact wU hM.gok hGg _,by rw [<- hw'];exact zbt hM.keeps (hM.mine k _ g hx (hkhas g (.inl rfl))) _,?_,?_,?_,?_,hM.cell,hM.old⟩
 ·intro k1 x1 h1;by_cases e1:k1=d
  ·subst e1;rw [hmd];trivial
  ·by_cases e2:k1=k
   ·subst e2;rw [hx] at h1;cases h1;rw [hmk];refine ⟨⟨_,inf,hinf,⟨?_,.inr ⟨g,cap,_,by rw [List.length_set],hwg,by rw [List.length_set];exact h4,h5,?_,?_⟩⟩,hRn,hn⟩,?_⟩
    ·rw [List.length_set,List.length_set];exact hxl
    ·rw [List.size_toArray,List.length_set];simpa using h6
    ·rw [List.length_set]
     show (cur.toList.set (i*inf.size+j) y).take (es.length*inf.size)=xs.set (i*inf.size+j) y
     rw [List.take_set,h7]
    ·rw [T.reach];refine List.nodup_cons.2 ⟨fun h=>?_,hperm.nodup_iff.2 (List.nodup_append.2 ⟨?_,hnd2,fun a ha b hb hab=>?_⟩)⟩
     ·rcases List.mem_append.1 (hperm.mem_iff.1 h) with h | h
      ·exact hdg _ (hyk _ h) rfl
      ·exact hgn h
     ·rcases bP hown' with ⟨⟨A,rfl⟩,_⟩ | ⟨g2,cap2,cur2,rfl,_⟩
      ·rw [lC];exact List.nodup_nil
      ·rw [T.reach,T.reachR_plain inf'.size es' ys hr'];simp
     ·subst hab;exact hkd (hM.apart _ d _ _ a hx hXd (hkhas a (.inr hb)) (hyk a ha))
   ·rw [hmo k1 e1 e2];exact (hM.ob k1 x1 h1).mono (Gle.refl G) (Xle.refl X) (fun _ _=>rfl) (fun b hb=>hoth b (hng k1 x1 e2 h1 b hb))
 ·intro k1;by_cases e1:k1=d
  ·subst e1;rw [hmd,hXd];simp
  ·by_cases e2:k1=k
   ·subst e2;rw [hmk,hx];simp
   ·rw [hmo k1 e1 e2];exact hM.free k1
 ·have hsrc:∀ k1 x1 b,X k1=some x1->(upd (upd m d .dead) k (.dar (es.set i (r.set j (.ow e' es'))) e) k1).has w' x1 b->∃ k0 x0,X k0=some x0/\(m k0).has w x0 b/\((k1=k/\(k0=d∨k0=k))∨(k1≠d/\k1≠k/\k0=k1)):=by
   intro k1 x1 b h1 hb;rcases hf k1 x1 b h1 hb with ⟨rfl,q | q⟩ | ⟨a1,a2,q⟩
   ·exact ⟨d,y,hXd,hyk b q,.inl ⟨rfl,.inl rfl⟩⟩
   ·exact ⟨k1,_,hx,hkhas b q,.inl ⟨rfl,.inr rfl⟩⟩
   ·exact ⟨k1,x1,h1,q,.inr ⟨a1,a2,rfl⟩⟩
  intro k1 k2 x1 x2 b h1 h2 B1 B2;obtain ⟨p1,z1,a1,a2,a3⟩:=hsrc k1 x1 b h1 B1;obtain ⟨p2,z2,b1,b2,b3⟩:=hsrc k2 x2 b h2 B2;have hpp:=hM.apart p1 p2 z1 z2 b a1 b1 a2 b2;rcases a3 with ⟨rfl,a3⟩ | ⟨a3,a4,rfl⟩<;>rcases b3 with ⟨e2,b3⟩ | ⟨b3,b4,rfl⟩
  ·exact e2.symm
  ·rcases a3 with rfl | rfl
   ·exact absurd hpp.symm b3
   ·exact absurd hpp.symm b4
  ·subst e2;rcases b3 with rfl | rfl
   ·exact absurd hpp a3
   ·exact absurd hpp a4
  ·exact hpp
 ·intro k1 x1 b h1 B1;rcases hf k1 x1 b h1 B1 with ⟨_,q | q⟩ | ⟨_,_,q⟩
  ·exact hM.mine _ _ _ hXd (hyk b q)
  ·exact hM.mine _ _ _ hx (hkhas b q)
  ·exact hM.mine _ _ _ h1 q
theorem Mem.openStore (hM:Mem P C m w G X) {k d:Nat} {es:List (List T)} {e:TypeId} {g n c:Nat} {y:Value} {cur:Array Value} {inf:TypeInfo} (hm:m k=.dar es e) (hx:X k=some (.slice (some ⟨g,0,none⟩) n c)) (hinf:P.info? e=some inf)
  {i j:Nat} {r:List T} (hXd:X d=some y) (hi:es[i]?=some r) (hj:r[j]?=some .any) (hw:w.heap[g]?=some (.cells cur e (0,0))) :
  Mem P C (upd m k (.dah es e [(i,j,d)])) (w.setRow g (cur.toList.set (i*inf.size+j) y).toArray) G X:=by
 have ho:=hM.ob k _ hx;rw [hm] at ho;obtain ⟨⟨xs,inf1,hinf1,hown,hr,hn⟩,hnd⟩:=ho;rw [hinf] at hinf1;cases hinf1;have hil:i < es.length:=(List.getElem?_eq_some_iff.1 hi).1;have hown0:=hown;rcases bP hown with ⟨_,h00,_⟩ | ⟨g1,cap,cur1,h0,hg,hlt,h4,h5,h6,h7,hsub⟩
 ·omega
 cases h0;rw [hw] at hg;cases hg;have hcel:cellsOf w g=cur.toList:=gV hw;have hGg:G g=none:=hn _ _ _ rfl;have hrl:r.length=inf.size:=T.RowsO.len hr r (List.mem_of_getElem? hi);have hjl:j < inf.size:=by rw [<- hrl];exact (List.getElem?_eq_some_iff.1 hj).1
 have hkhas:∀ b,b=g∨b∈T.reachR w es (cellsOf w g)->(m k).has w (.slice (some ⟨g,0,none⟩) es.length (cap+1)) b:=fun b hb=>by
  rw [hm];show b∈T.reach w (.ow e es) _
  rw [T.reach];exact List.mem_cons.2 hb
 rw [T.reach] at hnd;obtain ⟨hgn,hnd2⟩:=List.nodup_cons.1 hnd;generalize hw':w.setRow g (cur.toList.set (i*inf.size+j) y).toArray=w';have hoth:∀ b,b≠g->w'.heap[b]?=w.heap[b]?:=fun b hb=>by rw [<- hw'];exact setRow_other w g b _ hb
 have hwg:w'.heap[g]?=some (.cells (cur.toList.set (i*inf.size+j) y).toArray e (0,0)):=by rw [<- hw'];exact setRow_heap w g cur _ e _ hw
 have hcel':cellsOf w' g=cur.toList.set (i*inf.size+j) y:=by rw [gV hwg]
 have hRc:=T.RowsO.congr (Gle.refl G) (w':=w') inf.size es (cellsOf w g) (fun b hb=>⟨hoth b (fun h=>hgn (h ▸ hb)),rfl⟩) (T.RowsO.sub inf.size es _ _ hsub hr);have hR':=T.RowsO.restrict inf.size es xs (cellsOf w g) hsub hr hRc.1;have hone:=hM.cell d y hXd;have hRn:=T.RowsO.set (t:=.any) i j r hi hjl (show T.IsO P G w' .any y from hone) hR';have hxl:xs.length=es.length*inf.size:=hown.1;have hri:r.set j .any=r:=by
  apply List.ext_getElem?;intro p;rw [List.getElem?_set];split
  ·rename_i h;subst h;rw [hj];simp [hrl,hjl]
  ·rfl
 have hes:es.set i (r.set j .any)=es:=by
  rw [hri];apply List.ext_getElem?;intro p;rw [List.getElem?_set];split
  ·rename_i h;subst h;rw [hi]
  ·rfl
 rw [hes] at hRn;have hpl:i*inf.size+j < cur.toList.length:=by
  have h1:(i+1)*inf.size<=es.length*inf.size:=Nat.mul_le_mul_right _ (by omega);have h2:es.length*inf.size<=(cap+1)*inf.size:=Nat.mul_le_mul_right _ h4;rw [Nat.succ_mul] at h1;simp only [Array.length_toList];omega
 have hsame:T.reachR w' es (cellsOf w' g)=T.reachR w es (cellsOf w g):=by
  rw [<- hRc.2];refine T.reachR_agree inf.size es _ _ (T.RowsO.len hr) (fun i' j' r' t' hi' hj' ht'=>?_);rw [hcel',hcel,List.getElem?_set,if_neg];intro he;have hj'l:j' < inf.size:=by rw [<- T.RowsO.len hr r' (List.mem_of_getElem? hi')];exact (List.getElem?_eq_some_iff.1 hj').1
  obtain ⟨rfl,rfl⟩:=zqu hj'l hjl he;rw [hi] at hi';cases hi';rw [hj] at hj';cases hj';exact ht' rfl
 have hre:T.reach w' (.ow e es) (.slice (some ⟨g,0,none⟩) es.length (cap+1))=g::T.reachR w es (cellsOf w g):=by rw [T.reach,hsame]
 rw [<- hw'] at hre hRn hwg hcel' ⊢;refine Mem.rewrite hM hx (hkhas g (.inl rfl)) hGg _ (.dah es e [(i,j,d)]) (by simp) (fun b hb=>hkhas b ?_) ?_
 ·replace hb:b∈T.reach (w.setRow g (cur.toList.set (i*inf.size+j) y).toArray) (.ow e es) (.slice (some ⟨g,0,none⟩) es.length (cap+1)):=hb;rw [hre] at hb;exact List.mem_cons.1 hb
 ·refine ⟨⟨_,inf,hinf,⟨?_,.inr ⟨g,cap,_,rfl,hwg,h4,h5,?_,?_⟩⟩,hRn,hn⟩,?_,fun z hz=>?_⟩
  ·rw [List.length_set];exact hxl
  ·rw [List.size_toArray,List.length_set];simpa using h6
  ·show (cur.toList.set (i*inf.size+j) y).take (es.length*inf.size)=xs.set (i*inf.size+j) y
   rw [List.take_set,h7]
  ·rw [hre];exact List.nodup_cons.2 ⟨hgn,hnd2⟩
  ·rw [List.mem_singleton] at hz;subst hz;refine ⟨⟨g,0,none⟩,es.length,cap,inf,y,rfl,hinf,hXd,?_⟩
   show (cellsOf _ g)[i*inf.size+j]?=some y
   rw [hcel',List.getElem?_set];simp [show i*inf.size+j < cur.size by simpa using hpl]
theorem zhU {g:Nat} {cur:Array Value} {t:TypeId} {fr:Nat × Nat} (hg:w.heap[g]?=some (.cells cur t fr)):w.setRow g cur=w:=by
 have hlt:g < w.heap.size:=(Array.getElem?_eq_some_iff.1 hg).1;have hv:w.heap[g]=.cells cur t fr:=(Array.getElem?_eq_some_iff.1 hg).2;have key:(w.setRow g cur).heap=w.heap:=by
  unfold World.setRow;apply Array.ext
  ·simp
  ·intro i h1 h2;simp only [Array.getElem_modify];split
   ·rename_i h;subst h;rw [hv]
   ·rfl
 have e1:w.setRow g cur={ w with heap:=(w.setRow g cur).heap }:=rfl;rw [e1,key]
theorem Mem.joinDah (hM:Mem P C m w G X) {k d:Nat} {es:List (List T)} {e:TypeId} {i j:Nat} (hm:m k=.dah es e [(i,j,d)])
  {r:List T} {e':TypeId} {es':List (List T)} (hd:m d=.arr es' e' true) (hi:es[i]?=some r) (hj:r[j]?=some .any) :
  Mem P C (upd (upd m d .dead) k (.dar (es.set i (r.set j (.ow e' es'))) e)) w G X:=by
 cases hx:X k with
 | none=>rw [(hM.free k).1 hx] at hm;cases hm
 | some x =>
   have ho:=hM.ob k x hx;rw [hm] at ho;obtain ⟨h1,h2,h0⟩:=ho;obtain ⟨a,n,c,inf,y,rfl,hinf,hXd,hcell⟩:=h0 (i,j,d) (by simp);have hkd:d≠k:=by rintro rfl;rw [hm] at hd;cases hd
   have h1':=h1;have hil:=(List.getElem?_eq_some_iff.1 hi).1;obtain ⟨xs,inf1,hinf1,hown,hr,hn⟩:=h1';rcases bP hown with ⟨_,h00,_⟩ | ⟨g,cap,cur,h0,hg,hlt,h4,h5,h6,h7,hsub⟩
   ·omega
   cases h0;have hM1:Mem P C (upd m k (.dar es e)) w G X:=Mem.less2 hM k _ (fun x' hx' hok=>by
    rw [hm] at hok ⊢;exact ⟨⟨hok.1,hok.2.1⟩,fun b hb=>hb⟩) ⟨fun h=>by simp at h,fun h=>by rw [hm] at h;cases h⟩
   have h3:=Mem.putLeaf (d:=d) hM1 (aE _ _ _) hx hinf (by rw [aJ _ _ _ hkd];exact hd) hXd hi hj hg;rw [gV hg] at hcell;have hset:(cur.toList.set (i*inf.size+j) y).toArray=cur:=by
    have:cur.toList.set (i*inf.size+j) y=cur.toList:=by
     apply List.ext_getElem?;intro p;rw [List.getElem?_set];split
     ·rename_i h;subst h;rw [hcell,if_pos (List.getElem?_eq_some_iff.1 hcell).1]
     ·rfl
    rw [this]
   rw [hset,zhU hg] at h3;have e1:upd (upd (upd m k (.dar es e)) d .dead) k (.dar (es.set i (r.set j (.ow e' es'))) e)=upd (upd m d .dead) k (.dar (es.set i (r.set j (.ow e' es'))) e):=by
    funext q;unfold upd;split
    ·rfl
    ·split<;>rfl
   rw [e1] at h3;exact h3
theorem Mem.fzLeaf (hM:Mem P C m w G X) {k:Nat} {es:List (List T)} {e:TypeId} {x:Value} (hm:m k=.dar es e) (hx:X k=some x)
  {i j:Nat} {r:List T} {e':TypeId} {es':List (List T)} (hi:es[i]?=some r) (hj:r[j]?=some (.ow e' es')) (hp:zag es'=true) :
  ∃ G',Gle G G'/\Mem P C (upd m k (.dar (es.set i (r.set j (.sl es'))) e)) w G' X:=by
 have ho:=hM.ob k x hx;rw [hm] at ho;obtain ⟨⟨xs,inf,hinf,hown,hr,hn⟩,hnd⟩:=ho;have hil:i < es.length:=(List.getElem?_eq_some_iff.1 hi).1;have hown0:=hown;rcases bP hown with ⟨_,h0,_⟩ | ⟨g,cap,cur,rfl,hg,hlt,h4,h5,h6,h7,hsub⟩
 ·omega
 have hrl:r.length=inf.size:=T.RowsO.len hr r (List.mem_of_getElem? hi);have hjl:j < inf.size:=by rw [<- hrl];exact (List.getElem?_eq_some_iff.1 hj).1
 obtain ⟨y,hy,hyo⟩:=T.RowsO.get hr i j r _ hi hj;have hyc:=hsub _ _ hy;have hperm:=T.reachR_set (w:=w) inf.size es (cellsOf w g) i j r _ (T.RowsO.len hr) hi hj;rw [List.getD_eq_getElem?_getD,hyc,Option.getD_some] at hperm;rw [T.reach] at hnd;obtain ⟨hgn,hnd2⟩:=List.nodup_cons.1 hnd;have hnd3:=hperm.nodup_iff.1 hnd2;obtain ⟨n1,n2,n3⟩:=List.nodup_append.1 hnd3;have hkhas:∀ b,b=g∨b∈T.reachR w es (cellsOf w g)->(m k).has w (.slice (some ⟨g,0,none⟩) es.length (cap+1)) b:=fun b hb=>by
  rw [hm];show b∈T.reach w (.ow e es) _
  rw [T.reach];exact List.mem_cons.2 hb
 have hyk:∀ b,b∈T.reach w (.ow e' es') y->(m k).has w (.slice (some ⟨g,0,none⟩) es.length (cap+1)) b:=fun b hb=>hkhas b (.inr (hperm.mem_iff.2 (List.mem_append_left _ hb)))
 -- what is known from now on
 have key:∃ G',Gle G G'/\Gok G' w/\(∀ b,b ∉ T.reach w (.ow e' es') y->G' b=G b)/\T.Is G' (.sl es') y:=by
  obtain ⟨ys,inf',hinf',hown',hr',hn'⟩:=hyo;have hrows:=T.Rows_of inf'.size es' ys hp hr';rcases bP hown' with ⟨⟨A,rfl⟩,h0,rfl⟩ | ⟨g2,cap2,cur2,rfl,hg2,hlt2,q4,q5,q6,q7,_⟩
  ·refine ⟨G,Gle.refl G,hM.gok,fun _ _=>rfl,A,0,inf'.size,by rw [h0],by omega,Nat.zero_le _,.inl (List.eq_nil_of_length_eq_zero h0)⟩
  ·have hG2:G g2=none:=hn' _ _ _ rfl;have hle:Gle G (upd G g2 (some ys)):=fun b cs hb=>by
    by_cases B2:b=g2
    ·subst B2;rw [hG2] at hb;cases hb
    ·exact ⟨[],by rw [aJ _ _ _ B2,hb,List.append_nil]⟩
   refine ⟨_,hle,fun b cs hb=>?_,fun b hb=>?_,some ⟨g2,0,none⟩,cap2+1,inf'.size,rfl,q4,q5,.inr ⟨g2,0,ys,rfl,aE _ _ _,?_⟩⟩
   ·by_cases B2:b=g2
    ·subst B2;rw [aE] at hb;cases hb;exact ⟨cur2,_,_,hg2,cur2.toList.drop (es'.length*inf'.size),by rw [<- q7,List.take_append_drop]⟩
    ·rw [aJ _ _ _ B2] at hb;exact hM.gok b cs hb
   ·refine aJ _ _ _ (fun h=>hb ?_);subst h;rw [T.reach];simp
   ·rw [List.drop_zero];exact T.Rows.mono hle inf'.size es' ys ys (Sub.refl _) hrows
 obtain ⟨G',hG,hgok,hsame,hval⟩:=key;refine ⟨G',hG,?_⟩;have hoth:∀ k1 x1,k1≠k->X k1=some x1->∀ b,(m k1).has w x1 b->G' b=G b:=fun k1 x1 h1 hx1 b hb=>hsame b (fun h=>h1 (hM.apart k1 k x1 _ b hx1 hx hb (hyk b h)))
 have hGg:G' g=G g:=hsame g (fun h=>hgn (hperm.mem_iff.2 (List.mem_append_left _ h)))
 -- the rows
 have hany:=T.RowsO.set_any i j r hi T.IsO.one hr;have hanyc:=T.RowsO.congr hG (w':=w) inf.size (es.set i (r.set j .any)) (cellsOf w g) (fun b hb=>⟨rfl,hsame b (fun h=>n3 b h b hb rfl)⟩) (T.RowsO.set_any i j r hi T.IsO.one (T.RowsO.sub inf.size es _ _ hsub hr));have hany':=T.RowsO.restrict inf.size (es.set i (r.set j .any)) xs (cellsOf w g) hsub hany hanyc.1;have hnew:=T.RowsO.set (t:=.sl es') i j (r.set j .any) (by rw [List.getElem?_set];simp [hil]) hjl hval hany';have hset:xs.set (i*inf.size+j) y=xs:=by
  apply List.ext_getElem?;intro p;rw [List.getElem?_set];split
  ·rename_i h;subst h;rw [hy,if_pos (List.getElem?_eq_some_iff.1 hy).1]
  ·rfl
 rw [hset,List.set_set,List.set_set] at hnew;have hreach:T.reachR w (es.set i (r.set j (.sl es'))) (cellsOf w g)=T.reachR w (es.set i (r.set j .any)) (cellsOf w g):=by
  have hp2:=T.reachR_set (w:=w) inf.size (es.set i (r.set j (.sl es'))) (cellsOf w g) i j (r.set j (.sl es')) (.sl es') (T.RowsO.len hnew) (by rw [List.getElem?_set];simp [hil]) (by rw [List.getElem?_set];simp [hrl,hjl]);have gen:∀ (es:List (List T)) (l:List Value) (i:Nat) (r1 r2:List T),r1.length=r2.length->(∀ l,T.reachC w r1 l=T.reachC w r2 l)->T.reachR w (es.set i r1) l=T.reachR w (es.set i r2) l:=by
   intro es;induction es with
   | nil=>intro l i r1 r2 _ _;rfl
   | cons r0 rs ih =>
     intro l i r1 r2 hl h;cases i with
     | zero=>rw [List.set_cons_zero,List.set_cons_zero,T.reachR,T.reachR,h,hl]
     | succ i=>rw [List.set_cons_succ,List.set_cons_succ,T.reachR,T.reachR,ih _ _ _ _ hl h]
  refine gen es _ i _ _ (by simp) (fun l=>?_);have gc:∀ (ts:List T) (l:List Value) (j:Nat),T.reachC w (ts.set j (.sl es')) l=T.reachC w (ts.set j .any) l:=by
   intro ts;induction ts with
   | nil=>intro l j;rfl
   | cons t0 ts ih =>
     intro l j;cases j with
     | zero=>rw [List.set_cons_zero,List.set_cons_zero,T.reachC,T.reachC,T.reach_any];congr 1
     | succ j=>rw [List.set_cons_succ,List.set_cons_succ,T.reachC,T.reachC,ih]
  exact gc r l j
 have hsubk:∀ b,(Ob.dar (es.set i (r.set j (.sl es'))) e).has w (.slice (some ⟨g,0,none⟩) es.length (cap+1)) b->(m k).has w (.slice (some ⟨g,0,none⟩) es.length (cap+1)) b:=fun b hb=>by
  replace hb:b∈T.reach w (.ow e (es.set i (r.set j (.sl es')))) (.slice (some ⟨g,0,none⟩) es.length (cap+1)):=hb;rw [T.reach,hreach] at hb;exact hkhas b ((List.mem_cons.1 hb).imp id fun hb=>hperm.mem_iff.2 (List.mem_append_right _ hb))
 have hf:∀ k1 x1 b,X k1=some x1->(upd m k (.dar (es.set i (r.set j (.sl es'))) e) k1).has w x1 b->(m k1).has w x1 b:=fun k1 x1 b h1 hb=>by
  by_cases e1:k1=k
  ·subst e1;rw [hx] at h1;cases h1;rw [aE] at hb;exact hsubk b hb
  ·rwa [aJ _ _ _ e1] at hb
 refine ⟨hM.gle.trans hG,fun b hb hnb=>?_,hgok,hM.keeps,?_,?_,fun k1 k2 x1 x2 b h1 h2 B1 B2=>hM.apart k1 k2 x1 x2 b h1 h2 (hf k1 x1 b h1 B1) (hf k2 x2 b h2 B2),fun k1 x1 b h1 hb=>hM.mine k1 x1 b h1 (hf k1 x1 b h1 hb),hM.cell,hM.old⟩
 ·rw [hsame b (fun h=>?_)]
  ·exact hM.gold b hb hnb
  ·rcases hM.mine _ _ _ hx (hyk b h) with h3 | h3
   ·exact hnb h3
   ·omega
 ·intro k1 x1 h1;by_cases e1:k1=k
  ·subst e1;rw [hx] at h1;cases h1;rw [aE];refine ⟨⟨xs,inf,hinf,by rw [List.length_set];exact hown0,hnew,fun a n c ha=>?_⟩,?_⟩
   ·cases ha;rw [hGg];exact hn _ _ _ rfl
   ·rw [T.reach,hreach];exact List.nodup_cons.2 ⟨fun h=>hgn (hperm.mem_iff.2 (List.mem_append_right _ h)),n2⟩
  ·rw [aJ _ _ _ e1];exact (hM.ob k1 x1 h1).mono hG (Xle.refl X) (hoth k1 x1 e1 h1) (fun _ _=>rfl)
 ·intro k1;by_cases e1:k1=k
  ·subst e1;rw [aE,hx];simp
  ·rw [aJ _ _ _ e1];exact hM.free k1
theorem Mem.ofDar (hM:Mem P C m w G X) {k:Nat} {es:List (List T)} {e:TypeId} (hm:m k=.dar es e) (hp:zag es=true):Mem P C (upd m k (.arr es e true)) w G X:=by
 refine Mem.less2 hM k (.arr es e true) (fun x hx hok=>?_) ⟨fun h=>by simp at h,fun h=>by rw [hm] at h;cases h⟩;rw [hm] at hok ⊢;obtain ⟨⟨xs,i,hi,hown,hr,hn⟩,_⟩:=hok;refine ⟨⟨xs,i,hi,hown,T.Rows_of i.size es xs hp hr,fun a n c h=>by simpa using hn a n c h⟩,fun b hb=>?_⟩;obtain ⟨a,n',c',rfl,rfl⟩:=Ob.has_arr'.1 hb
 show a.block∈T.reach w (.ow e es) _
 rw [T.reach];simp
def T.fzT:T->T
 | .ow _ es=>.sl es
 | t=>t
def T.fzB:T->Bool
 | .sc _ | .sl _=>true
 | .ow _ es=>zag es
 | .any=>false
theorem za0 {α:Type} (f:Nat->α) (k:Nat) (a b:α):upd (upd f k a) k b=upd f k b:=by
 funext i;by_cases h:i=k
 ·subst h;rw [aE,aE]
 ·rw [aJ _ _ _ h,aJ _ _ _ h,aJ _ _ _ h]
theorem zgL {α:Type} (f:Nat->α) (k:Nat):upd f k (f k)=f:=by
 funext i;by_cases h:i=k
 ·subst h;rw [aE]
 ·rw [aJ _ _ _ h]
theorem Mem.fzRow {k:Nat} {e:TypeId} {x:Value} (hx:X k=some x) (don rest:List (List T)):∀ (c2 c1:List T) (m:Nat->Ob) (G:Im),Mem P C m w G X->m k=.dar (don++(c1++c2)::rest) e->c2.all T.fzB=true ->
  ∃ G',Gle G G'/\Mem P C (upd m k (.dar (don++(c1++c2.map T.fzT)::rest) e)) w G' X
 | [],c1,m,G,hM,hm,_=>⟨G,Gle.refl G,by rw [List.map_nil,<- hm,zgL];exact hM⟩
 | t::c2,c1,m,G,hM,hm,hb=>by
   rw [List.all_cons,Bool.and_eq_true] at hb;have step:∃ G1,Gle G G1/\Mem P C (upd m k (.dar (don++((c1++[t.fzT])++c2)::rest) e)) w G1 X:=by
    cases t with
    | ow e' es' =>
      obtain ⟨G1,h1,h2⟩:=hM.fzLeaf (i:=don.length) (j:=c1.length) (r:=c1++.ow e' es'::c2) (e':=e') (es':=es') hm hx (by simp) (by simp) hb.1;refine ⟨G1,h1,?_⟩;have e1:(don++(c1++T.ow e' es'::c2)::rest).set don.length ((c1++T.ow e' es'::c2).set c1.length (.sl es'))=don++((c1++[T.fzT (.ow e' es')])++c2)::rest:=by
       rw [List.set_append_right _ _ (Nat.le_refl _),List.set_append_right _ _ (Nat.le_refl _)];simp [T.fzT]
      rw [e1] at h2;exact h2
    | any=>exact absurd hb.1 (by simp [T.fzB])
    | sc s=>exact ⟨G,Gle.refl G,by
      have e1:don++((c1++[T.fzT (.sc s)])++c2)::rest=don++(c1++.sc s::c2)::rest:=by simp [T.fzT]
      rw [e1,<- hm,zgL];exact hM⟩
    | sl es=>exact ⟨G,Gle.refl G,by
      have e1:don++((c1++[T.fzT (.sl es)])++c2)::rest=don++(c1++.sl es::c2)::rest:=by simp [T.fzT]
      rw [e1,<- hm,zgL];exact hM⟩
   obtain ⟨G1,hG1,hM1⟩:=step;obtain ⟨G2,hG2,hM2⟩:=Mem.fzRow hx don rest c2 (c1++[t.fzT]) _ G1 hM1 (aE _ _ _) hb.2;refine ⟨G2,hG1.trans hG2,?_⟩;rw [za0] at hM2;rw [List.map_cons];rw [List.append_assoc] at hM2;exact hM2
theorem Mem.fzRows {k:Nat} {e:TypeId} {x:Value} (hx:X k=some x):∀ (todo don:List (List T)) (m:Nat->Ob) (G:Im),Mem P C m w G X->m k=.dar (don++todo) e->(todo.all fun r=>r.all T.fzB)=true ->
  ∃ G',Gle G G'/\Mem P C (upd m k (.dar (don++todo.map (·.map T.fzT)) e)) w G' X
 | [],don,m,G,hM,hm,_=>⟨G,Gle.refl G,by rw [List.map_nil,<- hm,zgL];exact hM⟩
 | r::rs,don,m,G,hM,hm,hb=>by
   rw [List.all_cons,Bool.and_eq_true] at hb;obtain ⟨G1,hG1,hM1⟩:=Mem.fzRow hx don rs r [] m G hM hm hb.1;obtain ⟨G2,hG2,hM2⟩:=Mem.fzRows (e:=e) hx rs (don++[r.map T.fzT]) _ G1 hM1 (by rw [aE];simp) hb.2;refine ⟨G2,hG1.trans hG2,?_⟩;rw [za0] at hM2;rw [List.map_cons];rw [List.append_assoc] at hM2;exact hM2
theorem zqQ {es:List (List T)} (h:(es.all fun r=>r.all T.fzB)=true):zag (es.map (·.map T.fzT))=true:=by
 unfold zag;rw [List.all_eq_true] at h ⊢;intro r hr;obtain ⟨r0,h0,rfl⟩:=List.mem_map.1 hr;have:=h r0 h0;rw [List.all_eq_true] at this ⊢;intro t ht;obtain ⟨t0,h1,rfl⟩:=List.mem_map.1 ht;have:=this t0 h1;cases t0<;>first | rfl | (simp [T.fzB] at this)
theorem Mem.fzDar (hM:Mem P C m w G X) {k:Nat} {es:List (List T)} {e:TypeId} (hm:m k=.dar es e) (hb:(es.all fun r=>r.all T.fzB)=true):∃ G',Gle G G'/\Mem P C (upd m k (.arr (es.map (·.map T.fzT)) e true)) w G' X:=by
 cases hx:X k with
 | none=>rw [(hM.free k).1 hx] at hm;cases hm
 | some x =>
   obtain ⟨G1,hG1,hM1⟩:=Mem.fzRows hx es [] m G hM hm hb;refine ⟨G1,hG1,?_⟩;have:=hM1.ofDar (k:=k) (aE _ _ _) (by rw [List.nil_append];exact zqQ hb);rw [za0,List.nil_append] at this;exact this
theorem Mem.appendDar (hM:Mem P C m w G X) {k id:Nat} {es fs:List (List T)} {e:TypeId} {x:Value} (hm:m k=.dar es e) (hx:X k=some x) (hid:m id=.no)
  (t ty:TypeId) (i:TypeInfo) (z:Value) (ht:P.underlying t=some (.slice e)) (hi:P.info? e=some i) (hz:i.zero=some z) (hzs:z.cells.size=i.size)
  (B:Option Addr) (c:Nat) (news:List Value) (hl:news.length=fs.length*i.size) (hr2:T.RowsO P G w i.size fs news) (hre:T.reachR w fs news=[])
  (hnews:fs.length=0∨∃ a,B=some a/\∀ j u,news[j]?=some u->w.cell? (a.add j)=some u) (h1:∀ u∈news,u.oneCell'=true) (hbytes:(es.length+fs.length)*i.bytes<=140737488355328) (h63:es.length+fs.length<=maxLen) :
  ∃ v' w',(Builtin.append_ #[t,t] ty #[x,.slice B fs.length c]).run P w=.ok v' w'/\Xle X (upd X id (some v')) /\
    Mem P C (upd (upd m k .dead) id (.dar (es++fs) e)) w' G (upd X id (some v')):=by
 have hXid:X id=none:=(hM.free id).2 hid;have hkid:k≠id:=by rintro rfl;rw [hx] at hXid;cases hXid
 have ho:=hM.ob k x hx;rw [hm] at ho;obtain ⟨⟨xs,i',hi',hown,hr,hn⟩,hnd⟩:=ho;rw [hi] at hi';cases hi';obtain ⟨v',w',hrun,hown',hcases⟩:=u5 (P:=P) t ty e i z ht hi hz hzs x es.length xs hown B c fs.length news hl hnews h1 hbytes h63;have hxl:xs.length=es.length*i.size:=hown.1;have hlen:=T.RowsO.len hr
 -- what x reaches
 obtain ⟨N,hNr,hNk,hNn,hNo⟩:∃ N:List Nat,(∀ l,(∀ p,p < es.length*i.size->l[p]?=xs[p]?)->T.reachR w es l=N)/\(∀ b∈N,(m k).has w x b)/\N.Nodup /\
   (∀ g n c,x=.slice (some ⟨g,0,none⟩) n (c+1)->g ∉ N/\(m k).has w x g):=by
  refine ⟨T.reachR w es xs,fun l h=>T.reachR_pre i.size hlen h,?_⟩;rcases bP hown with ⟨⟨A,rfl⟩,h0,_⟩ | ⟨g,cap,cur,rfl,hg,_,_,_,_,_,hsub⟩
  ·have:es=[]:=List.eq_nil_of_length_eq_zero h0;subst this;exact ⟨fun b hb=>(by cases hb),List.nodup_nil,fun g n c h=>(by cases h)⟩
  ·have hsame:T.reachR w es (cellsOf w g)=T.reachR w es xs:=T.reachR_pre i.size hlen (fun p hp=>by
    have hp2:p < xs.length:=by omega
    rw [List.getElem?_eq_getElem hp2];exact hsub _ _ (List.getElem?_eq_getElem hp2))
   rw [T.reach,hsame] at hnd;obtain ⟨a1,a2⟩:=List.nodup_cons.1 hnd;refine ⟨fun b hb=>?_,a2,fun g1 n1 c1 h=>?_⟩
   ·rw [hm];show b∈T.reach w (.ow e es) _
    rw [T.reach,hsame];exact List.mem_cons_of_mem _ hb
   ·cases h;refine ⟨a1,?_⟩;rw [hm];show g∈T.reach w (.ow e es) _
    rw [T.reach];simp
 have hNlt:∀ b∈N,b < w.heap.size:=fun b hb=>hM.blk_lt hx (hNk b hb)
 -- the block of the answer
 have key:((∃ A,v'=.slice A 0 0)/\es=[]/\fs=[])∨∃ g n' c' rest,v'=.slice (some ⟨g,0,none⟩) n' (c'+1)/\cellsOf w' g=(xs++news)++rest/\G g=none/\g ∉ N/\((m k).has w x g∨g=w.heap.size):=by
  rcases bP hown' with ⟨hv,h0,_⟩ | ⟨g,cap,cur,rfl,hg,_,_,_,_,h7,_⟩
  ·exact .inl ⟨hv,List.eq_nil_of_length_eq_zero (by omega),List.eq_nil_of_length_eq_zero (by omega)⟩
  ·refine .inr ⟨g,_,cap,cur.toList.drop ((es.length+fs.length)*i.size),rfl,by rw [gV hg,<- h7,List.take_append_drop],?_⟩;rcases hcases with ⟨h1,_,_⟩ | ⟨g1,cap1,cur1,cur',rest,h1,h2,_⟩ | ⟨cap',cur',rest,h1,_,_⟩
   ·exact ⟨hn _ _ _ h1.symm,(hNo _ _ _ h1.symm).1,.inl (hNo _ _ _ h1.symm).2⟩
   ·cases h2;exact ⟨hn _ _ _ h1,(hNo _ _ _ h1).1,.inl (hNo _ _ _ h1).2⟩
   ·cases h1;exact ⟨hM.gok.none (Nat.le_refl _),fun h=>absurd (hNlt _ h) (by omega),.inr rfl⟩
 have hw:∀ b,b < w.heap.size->(∀ g n c,x=.slice (some ⟨g,0,none⟩) n (c+1)->b≠g)->w'.heap[b]?=w.heap[b]?:=by
  intro b hb hbg;rcases hcases with ⟨_,rfl,_⟩ | ⟨g,cap,cur,cur',rest,hxg,_,hg,rfl,_⟩ | ⟨cap',cur',rest,_,rfl,_⟩
  ·rfl
  ·exact setRow_other w g b _ (hbg _ _ _ hxg)
  ·exact zd (w:=w.drew) hb
 have hgl:Gok G w'/\w'.os=w.os/\w'.tape=w.tape/\w'.output=w.output/\w.heap.size<=w'.heap.size:=by
  rcases hcases with ⟨_,rfl,_⟩ | ⟨g,cap,cur,cur',rest,rfl,_,hg,rfl,_⟩ | ⟨cap',cur',rest,_,rfl,_⟩
  ·exact ⟨hM.gok,rfl,rfl,rfl,Nat.le_refl _⟩
  ·exact ⟨wU hM.gok (hn _ _ _ rfl) _,rfl,rfl,rfl,by simp⟩
  ·exact ⟨Gok.alloc (w:=w.drew) hM.gok _,rfl,rfl,rfl,by simp⟩
 have hone:v'.oneCell'=true:=by rcases key with ⟨⟨A,rfl⟩,_⟩ | ⟨g,n',c',rest,rfl,_⟩<;>rfl
 have hwk:∀ b,b < w.heap.size->¬ (m k).has w x b->w'.heap[b]?=w.heap[b]?:=fun b hb hnb=>hw b hb (fun g n c hxg h=>hnb (h ▸ (hNo g n c hxg).2))
 have hwN:∀ b∈N,w'.heap[b]?=w.heap[b]?:=fun b hb=>hw b (hNlt b hb) (fun g n c hxg h=>(hNo g n c hxg).1 (h ▸ hb))
 -- the rows in the new world
 have hes:T.RowsO P G w' i.size es xs/\T.reachR w' es xs=N:=by
  have hN:T.reachR w es xs=N:=hNr xs (fun _ _=>rfl);have:=T.RowsO.congr (Gle.refl G) (w':=w') i.size es xs (fun b hb=>⟨hwN b (by rw [<- hN];exact hb),rfl⟩) hr;exact ⟨this.1,this.2.trans hN⟩
 have hfs:=T.RowsO.congr (Gle.refl G) (w':=w') i.size fs news (fun b hb=>by rw [hre] at hb;cases hb) hr2;rw [hre] at hfs;have hRn:=T.RowsO.append hxl hes.1 hfs.1;have hreach:∀ g rest,cellsOf w' g=(xs++news)++rest->T.reachR w' (es++fs) (cellsOf w' g)=N:=by
  intro g rest hc;rw [T.reachR_append i.size es fs _ hlen];have a1:T.reachR w' es (cellsOf w' g)=T.reachR w' es xs:=T.reachR_pre i.size hlen (fun p hp=>by
   rw [hc,List.append_assoc,List.getElem?_append_left (by omega)])
  have a2:T.reachR w' fs ((cellsOf w' g).drop (es.length*i.size))=T.reachR w' fs news:=T.reachR_pre i.size (T.RowsO.len hr2) (fun p hp=>by
   rw [hc,List.append_assoc,<- hxl,List.drop_left,List.getElem?_append_left (by omega)])
  rw [a1,a2,hes.2,hfs.2,List.append_nil]
 have hmd:upd (upd m k Ob.dead) id (.dar (es++fs) e) id=.dar (es++fs) e:=aE _ _ _;have hmk:upd (upd m k Ob.dead) id (.dar (es++fs) e) k=.dead:=by rw [aJ _ _ _ hkid,aE]
 have hmo:∀ k1,k1≠id->k1≠k->upd (upd m k Ob.dead) id (.dar (es++fs) e) k1=m k1:=fun k1 a b=>by rw [aJ _ _ _ a,aJ _ _ _ b]
 have hnew:∀ b,b∈T.reach w' (.ow e (es++fs)) v'->(m k).has w x b∨b=w.heap.size:=by
  intro b hb;rcases key with ⟨⟨A,rfl⟩,_⟩ | ⟨g,n',c',rest,rfl,hc,_,_,hg⟩
  ·rw [lC] at hb;cases hb
  ·rw [T.reach,hreach g rest hc] at hb;rcases List.mem_cons.1 hb with rfl | hb
   ·exact hg
   ·exact .inl (hNk b hb)
 have hh:∀ k1 y b,k1≠k->X k1=some y->(m k1).has w' y b->(m k1).has w y b:=fun k1 y b hk hy hb =>
  (Ob.has_congr (fun b2 B2=>hwk b2 (hM.blk_lt hy B2) (fun B3=>hk (hM.apart k1 k y x b2 hy hx B2 B3))) (hM.ob k1 y hy) b).1 hb
 have hsrc:∀ k1 y b,upd X id (some v') k1=some y->(upd (upd m k Ob.dead) id (.dar (es++fs) e) k1).has w' y b->(k1=id/\((m k).has w x b∨b=w.heap.size))∨(k1≠id/\k1≠k/\X k1=some y/\(m k1).has w y b):=by
  intro k1 y b hy hb;by_cases e1:k1=id
  ·subst e1;rw [aE] at hy;cases hy;rw [hmd] at hb;exact .inl ⟨rfl,hnew b hb⟩
  ·rw [aJ _ _ _ e1] at hy;by_cases e2:k1=k
   ·subst e2;rw [hmk] at hb;exact (Ob.has_dead hb).elim
   ·rw [hmo k1 e1 e2] at hb;exact .inr ⟨e1,e2,hy,hh k1 y b e2 hy hb⟩
 refine ⟨v',w',hrun,jO hXid,hM.gle,hM.gold,hgl.1,⟨hgl.2.1.trans hM.keeps.os,hgl.2.2.1.trans hM.keeps.tape,hgl.2.2.2.1.trans hM.keeps.output,Nat.le_trans hM.keeps.size hgl.2.2.2.2,fun b hb hnb=>?_⟩,?_,?_,?_,?_,?_,fun k1 y hk=>jO hXid k1 y (hM.old k1 y hk)⟩
 ·rw [hwk b (by have:=hM.keeps.size;omega) (fun hb'=>?_)]
  ·exact hM.keeps.block b hb hnb
  ·rcases hM.mine k x b hx hb' with h3 | h3
   ·exact hnb h3
   ·omega
 ·intro k1 y hy;by_cases e1:k1=id
  ·subst e1;rw [aE] at hy;cases hy;rw [hmd];refine ⟨⟨xs++news,i,hi,by rw [List.length_append];exact hown',hRn,fun a n1 c1 ha=>?_⟩,?_⟩
   ·rcases key with ⟨hA,_⟩ | ⟨g,n',c',rest,rfl,_,hg,_⟩
    ·obtain ⟨A,rfl⟩:=hA;simp at ha
    ·cases ha;exact hg
   ·rcases key with ⟨⟨A,rfl⟩,_⟩ | ⟨g,n',c',rest,rfl,hc,_,hgN,_⟩
    ·rw [lC];exact List.nodup_nil
    ·rw [T.reach,hreach g rest hc];exact List.nodup_cons.2 ⟨hgN,hNn⟩
  ·rw [aJ _ _ _ e1] at hy;by_cases e2:k1=k
   ·subst e2;rw [hmk];trivial
   ·rw [hmo k1 e1 e2];exact (hM.ob k1 y hy).mono (Gle.refl G) (jO hXid) (fun _ _=>rfl) (fun b hb=>hwk b (hM.blk_lt hy hb) (fun hb'=>e2 (hM.apart k1 k y x b hy hx hb hb')))
 ·intro k1;by_cases e1:k1=id
  ·subst e1;rw [hmd,aE];simp
  ·rw [aJ _ _ _ e1];by_cases e2:k1=k
   ·subst e2;rw [hmk,hx];simp
   ·rw [hmo k1 e1 e2];exact hM.free k1
 ·intro k1 k2 y1 y2 b h1 h2 B1 B2;rcases hsrc k1 y1 b h1 B1 with ⟨rfl,q1⟩ | ⟨a1,a2,q1,q2⟩<;>rcases hsrc k2 y2 b h2 B2 with ⟨e2,p1⟩ | ⟨b1,b2,p1,p2⟩
  ·exact e2.symm
  ·rcases q1 with q1 | rfl
   ·exact absurd (hM.apart k k2 _ _ b hx p1 q1 p2).symm b2
   ·exact absurd (hM.blk_lt p1 p2) (by omega)
  ·rcases p1 with p1 | rfl
   ·exact absurd (hM.apart k k1 _ _ b hx q1 p1 q2).symm a2
   ·exact absurd (hM.blk_lt q1 q2) (by omega)
  ·exact hM.apart _ _ _ _ b q1 p1 q2 p2
 ·intro k1 y b hy hb;rcases hsrc k1 y b hy hb with ⟨_,q | rfl⟩ | ⟨_,_,q1,q2⟩
  ·exact hM.mine _ _ _ hx q
  ·exact .inr hM.keeps.size
  ·exact hM.mine _ _ _ q1 q2
 ·intro k1 y hy;by_cases e1:k1=id
  ·subst e1;rw [aE] at hy;cases hy;exact hone
  ·rw [aJ _ _ _ e1] at hy;exact hM.cell _ _ hy
theorem zfN {g p:Nat} {y:Value} (h:(cellsOf w g)[p]?=some y):∃ cur e fr,w.heap[g]?=some (.cells cur e fr)/\cur.toList[p]?=some y:=by
 unfold cellsOf at h;split at h
 ·rename_i cur e fr hw;exact ⟨cur,e,fr,hw,h⟩
 ·simp at h
theorem zlC (hM:Mem P C m w G X) {t e:TypeId} {k i sz off d:Nat} {es:List (List T)} {r:List T} {e':TypeId} {es':List (List T)} (hm:m k=.dar es e) (hes:kG P e=some sz) (hi:es[i]?=some r) (hj:r[off]?=some (.ow e' es')) (hp:zag es'=true) (hd:m d=.no)
  (ht:n9 P t=some false) {ρ:Operand->Value} {o:Oper} {x:Operand} (ho:o.op=.load t x) (hpx:V.Is G X (.re k i sz off) (ρ x)) :
  Did P C m G X ((execOp ρ o).run P w) (.ar d) [(k,.dar (es.set i (r.set off .any)) e),(d,.arr es' e' true)]:=by
 rw [V.Is] at hpx;obtain ⟨b,n,c,hX,hx⟩:=hpx;obtain ⟨y,inf,g,n',c',hinf,he,hyc,hle,hM'⟩:=hM.takeLeaf hm hX hd hi hj hp;cases he;have hsz:inf.size=sz:=by simp [kG,hinf] at hes;exact hes
 rw [hsz] at hyc;obtain ⟨cur,e2,fr,hw,hcur⟩:=zfN hyc;obtain ⟨z,hr,hz⟩:=z8 (P:=P) (G:=G) (X:=upd X d (some y)) (t:=t) (cells:=[.ar d]) (v:=.ar d) (by unfold zcy;rw [ht];rfl) hw (o:=i*sz+off) (by
  intro j v hv;cases j with
  | zero =>
    have e1:V.ar d=v:=by simpa using hv
    subst e1;exact ⟨y,by rw [List.getElem?_drop,Nat.add_zero];exact hcur,by rw [V.Is,aE]⟩
  | succ j=>simp at hv)
 refine ⟨.value z,z,w,G,_,?_,.inl rfl,Gle.refl G,hle,hM',hz⟩;simp [execOp,ho,hx,hr]
theorem zeI {α:Type} (l:List α) (p:Nat) (y:α) (h:p < l.length):cK l p [y]=l.set p y:=by
 unfold cK;rw [List.set_eq_take_append_cons_drop,if_pos h];simp
theorem zj5 (hM:Mem P C m w G X) {t e:TypeId} {k i sz off d:Nat} {es:List (List T)} {r:List T} {e':TypeId} {es':List (List T)} (hm:m k=.dar es e) (hes:kG P e=some sz) (hi:es[i]?=some r) (hj:r[off]?=some .any) (hd:m d=.arr es' e' true)
  (hsz:kG P t=some 1) {ρ:Operand->Value} {o:Oper} {p x:Operand} (ho:o.op=.store t p x) (hp:V.Is G X (.re k i sz off) (ρ p)) (hv:V.Is G X (.ar d) (ρ x)) :
  Did P C m G X ((execOp ρ o).run P w) .jk [(d,.dead),(k,.dar (es.set i (r.set off (.ow e' es'))) e)]:=by
 rw [V.Is] at hp;rw [V.Is] at hv;obtain ⟨b,n,c,hX,hpx⟩:=hp;have hob:=hM.ob k _ hX;rw [hm] at hob;obtain ⟨⟨xs,inf,hinf,hown,hr,hn⟩,_⟩:=hob;have hinfs:inf.size=sz:=by simp [kG,hinf] at hes;exact hes
 have hil:i < es.length:=(List.getElem?_eq_some_iff.1 hi).1;have hrl:r.length=sz:=by rw [<- hinfs];exact T.RowsO.len hr r (List.mem_of_getElem? hi)
 have hol:off < sz:=by rw [<- hrl];exact (List.getElem?_eq_some_iff.1 hj).1
 rcases bP hown with ⟨_,h00,_⟩ | ⟨g,cap,cur,h0,hg,_,h4,_,h6,_,_⟩
 ·omega
 cases h0;have hone:=hM.cell d _ hv;have hcells:(ρ x).cells=#[ρ x]:=by
  cases hρ:ρ x<;>rw [hρ] at hone<;>first | rfl | (simp [Value.oneCell'] at hone)
 have hlt:i*sz+off < cur.toList.length:=by
  have h1:(i+1)*sz<=es.length*sz:=Nat.mul_le_mul_right _ (by omega);have h2:es.length*sz<=(cap+1)*sz:=Nat.mul_le_mul_right _ h4;rw [Nat.succ_mul] at h1;rw [hinfs] at h6;simp only [Array.length_toList];omega
 have hrun:=u2 (P:=P) (w:=w) (x:=ρ x) (b:=b) (off:=i*sz+off) (t:=t) hsz (by rw [hcells];rfl) (by rw [hcells];intro z hz;simp at hz;subst hz;exact hone) hg (by simp at hlt;omega);have hput:=hM.putLeaf (d:=d) hm hX hinf hd hv hi hj hg;rw [hinfs] at hput;refine ⟨.skip,undef,_,G,X,by simp [execOp,ho,hpx,hrun];rfl,.inr ⟨rfl,rfl⟩,Gle.refl G,Xle.refl X,?_,trivial⟩;rw [hcells];rw [show cK cur.toList (i*sz+off) (#[ρ x]:Array Value).toList=cur.toList.set (i*sz+off) (ρ x) from zeI _ _ _ hlt];exact hput
theorem zj6 (hM:Mem P C m w G X) {t e:TypeId} {k i sz off d:Nat} {es:List (List T)} {r:List T} (hm:m k=.dar es e) (hes:kG P e=some sz) (hi:es[i]?=some r) (hj:r[off]?=some .any)
  (hsz:kG P t=some 1) {ρ:Operand->Value} {o:Oper} {p x:Operand} (ho:o.op=.store t p x) (hp:V.Is G X (.re k i sz off) (ρ p)) (hv:V.Is G X (.ar d) (ρ x)) :
  Did P C m G X ((execOp ρ o).run P w) .jk [(k,.dah es e [(i,off,d)])]:=by
 rw [V.Is] at hp;rw [V.Is] at hv;obtain ⟨b,n,c,hX,hpx⟩:=hp;have hob:=hM.ob k _ hX;rw [hm] at hob;obtain ⟨⟨xs,inf,hinf,hown,hr,hn⟩,_⟩:=hob;have hinfs:inf.size=sz:=by simp [kG,hinf] at hes;exact hes
 have hil:i < es.length:=(List.getElem?_eq_some_iff.1 hi).1;have hrl:r.length=sz:=by rw [<- hinfs];exact T.RowsO.len hr r (List.mem_of_getElem? hi)
 have hol:off < sz:=by rw [<- hrl];exact (List.getElem?_eq_some_iff.1 hj).1
 rcases bP hown with ⟨_,h00,_⟩ | ⟨g,cap,cur,h0,hg,_,h4,_,h6,_,_⟩
 ·omega
 cases h0;have hone:=hM.cell d _ hv;have hcells:(ρ x).cells=#[ρ x]:=by
  cases hρ:ρ x<;>rw [hρ] at hone<;>first | rfl | (simp [Value.oneCell'] at hone)
 have hlt:i*sz+off < cur.toList.length:=by
  have h1:(i+1)*sz<=es.length*sz:=Nat.mul_le_mul_right _ (by omega);have h2:es.length*sz<=(cap+1)*sz:=Nat.mul_le_mul_right _ h4;rw [Nat.succ_mul] at h1;rw [hinfs] at h6;simp only [Array.length_toList];omega
 have hrun:=u2 (P:=P) (w:=w) (x:=ρ x) (b:=b) (off:=i*sz+off) (t:=t) hsz (by rw [hcells];rfl) (by rw [hcells];intro z hz;simp at hz;subst hz;exact hone) hg (by simp at hlt;omega);have hput:=hM.openStore (d:=d) hm hX hinf hv hi hj hg;rw [hinfs] at hput;refine ⟨.skip,undef,_,G,X,by simp [execOp,ho,hpx,hrun];rfl,.inr ⟨rfl,rfl⟩,Gle.refl G,Xle.refl X,?_,trivial⟩;rw [hcells];rw [show cK cur.toList (i*sz+off) (#[ρ x]:Array Value).toList=cur.toList.set (i*sz+off) (ρ x) from zeI _ _ _ hlt];exact hput
theorem ziT (hM:Mem P C m w G X) {id k:Nat} (hid:m id=.no) {t e:TypeId} {by' sz:Nat} (ht:zb2 P t=some (e,by',sz)) {v:V} {es fs:List (List T)} (hfs:toT m v=some (.sl fs))
  (hm:(app m (fzU m (fz v))) k=.dar es e) (hfr:(app m (fzU m (fz v))) id=.no) (hrow:∀ r∈fs,r.length=sz) (hb:(es.length+fs.length)*by'<=140737488355328) (hn:(fs.all fun r=>r.all (T.nisB P))=true) {ρ:Operand->Value} {o:Oper} {x y:Operand}
  (ho:o.op=.call { callee:=.builtin .append,args:=#[x,y],argTypes:=#[t,t] }) (hx:V.Is G X (.ar k) (ρ x)) (hv:V.Is G X v (ρ y)) :
  Did P C m G X ((execOp ρ o).run P w) (.ar id) (fzU m (fz v)++[(k,.dead),(id,.dar (es++fs.map (·.map T.nisO)) e)]):=by
 obtain ⟨i,z,hu,hi,hz,hzs,hby,hsz,B0,hs0⟩:=tX ht;obtain ⟨G1,hG1,hM1⟩:=hM.freezeL (fz v);have hT:T.Is G1 (.sl fs) (ρ y):=zfC hM1 (by rw [zdt];exact hfs) (fun k hk=>oT _ _ _ (.inr hk)) (V.Is.mono hG1 (Xle.refl X) _ _ hv);obtain ⟨B,c,news,hy,hl,hrows,hnews,hone⟩:=xF hM1.gok hT hrow;rw [V.Is] at hx;have h63:es.length+fs.length<=maxLen:=by
  have:es.length+fs.length<=(es.length+fs.length)*by':=Nat.le_mul_of_pos_right _ B0;simp only [maxLen];omega
 subst hsz;subst hby;have hO:=T.RowsO_nis (P:=P) (w:=w) i.size fs news hn hrows;obtain ⟨v',w',hrun,hX',hM'⟩:=hM1.appendDar (id:=id) (fs:=fs.map (·.map T.nisO)) hm hx hfr t o.type i z hu hi hz hzs B c news (by rw [List.length_map];exact hl) hO.1 hO.2 (by rw [List.length_map];exact hnews) hone (by rw [List.length_map];exact hb) (by rw [List.length_map];exact h63);rw [List.length_map,<- hy] at hrun;refine ⟨.value v',v',w',G1,_,u4 ho hrun,.inl rfl,hG1,hX',?_,?_⟩
 ·rw [mK];exact hM'
 ·rw [V.Is];exact aE _ _ _
end
end Go.Abs
end
section
set_option linter.unusedSimpArgs false
set_option linter.unusedVariables false
namespace Go.Abs
def bnd (d:Nat):Option V->Option Nat
 | none=>some d
 | some (.t (.sc (.int _ i)))=>if 0<=i then some i.toNat else none
 | _=>none
section ops
variable {P:Program} {C:Cx} {m:Nat->Ob} {w:World} {G:Im} {X:Xm}
theorem zkM {E:Operand->V} {ρ:Operand->Value} (hE:∀ x,V.Is G X (E x) (ρ x)) {b:Option Operand} {d n y:Nat} (h:bnd d (b.map E)=some n) (hn:n<=y) (code:BoundsCode) :
  (match b.map ρ with | some v=>Instr.sliceBound v y code | none=>pure d:Sem Nat).run P w=.ok n w:=by
 cases b with
 | none=>simp [bnd] at h;subst h;simp
 | some x =>
   simp only [Option.map_some] at h ⊢;have hx:=hE x;cases hv:E x with
   | t t =>
     rw [hv] at h hx;cases t with
     | sc s =>
       cases s with
       | int k i =>
         simp [bnd] at h;obtain ⟨h0,rfl⟩:=h;rw [V.Is,T.Is] at hx;rw [hx];simp [S.v,Instr.sliceBound,asIntOf,h0,show i<=(y:Int) by omega]
       | _=>simp [bnd] at h
     | _=>simp [bnd] at h
   | _=>rw [hv] at h;simp [bnd] at h
theorem zi8 {E:Operand->V} {ρ:Operand->Value} (hE:∀ x,V.Is G X (E x) (ρ x)) {lo hi:Option Operand} {len cap l h:Nat} (hl:bnd 0 (lo.map E)=some l) (hh:bnd len (hi.map E)=some h) (h1:l<=h) (h2:h<=cap) (b:Bool) :
  (Instr.sliceBounds b len cap (lo.map ρ) (hi.map ρ) none).run P w=.ok (l,h,cap) w:=by
 have e1:=zkM (P:=P) (w:=w) hE hh h2 (if b then .sliceAcap else .sliceAlen);have e2:=zkM (P:=P) (w:=w) hE hl h1 .sliceB;unfold Instr.sliceBounds;cases hi with
 | none =>
   have e3:len=h:=by simpa [bnd] using hh
   subst e3;cases lo with
   | none=>have e4:0=l:=by simpa [bnd] using hl
           subst e4;simp
   | some x=>simp at e2;simp [e2]
 | some y =>
   simp at e1;cases lo with
   | none=>have e4:0=l:=by simpa [bnd] using hl
           subst e4;cases b<;>simp_all
   | some x=>simp at e2;cases b<;>simp_all
theorem zj9 (hM:Mem P C m w G X) {t:TypeId} (ht:P.underlying t=some .string) {s:ByteArray} {E:Operand->V} {ρ:Operand->Value} (hE:∀ x,V.Is G X (E x) (ρ x)) {o:Oper} {x:Operand} {lo hi:Option Operand} {l h:Nat}
  (ho:o.op=.slice t x lo hi none) (hx:ρ x=.string s) (hl:bnd 0 (lo.map E)=some l) (hh:bnd s.size (hi.map E)=some h) (h1:l<=h) (h2:h<=s.size):Did P C m G X ((execOp ρ o).run P w) (.t (.sc (.str (s.extract l h)))) []:=by
 have:(execOp ρ o).run P w=.ok (.value (.string (s.extract l h))) w:=by
  simp [execOp,ho,Instr.sliceAt,run_underlying ht,Instr.slice,hx,zi8 hE hl hh h1 h2]
 rw [this];exact cL hM (by rw [V.Is,T.Is];rfl)
theorem zpT (hM:Mem P C m w G X) {t e:TypeId} {sz:Nat} (ht:zcw P t=some (e,sz)) {es:List (List T)} {E:Operand->V} {ρ:Operand->Value} (hE:∀ x,V.Is G X (E x) (ρ x)) {o:Oper} {x:Operand} {lo hi:Option Operand} {l h:Nat}
  (ho:o.op=.slice t x lo hi none) (hx:toT m (E x)=some (.sl es)) (hrow:∀ r∈es,r.length=sz) (hl:bnd 0 (lo.map E)=some l) (hh:bnd es.length (hi.map E)=some h) (h1:l<=h) (h2:h<=es.length) :
  Did P C m G X ((execOp ρ o).run P w) (.t (.sl ((es.take h).drop l))) (fzU m (fz (E x))):=by
 obtain ⟨hu,hs⟩:=zbq ht;obtain ⟨G1,hG1,hM1⟩:=hM.freezeL (fz (E x));have hT:T.Is G1 (.sl es) (ρ x):=zfC hM1 (by rw [zdt];exact hx) (fun k hk=>oT _ _ _ (.inr hk)) (V.Is.mono hG1 (Xle.refl X) _ _ (hE x));rw [T.Is] at hT;obtain ⟨A,c,sz',hxv,hc,C2,hr⟩:=hT;have hb:=zi8 (P:=P) (w:=w) hE hl hh h1 (show h<=c by omega) true;have hlen:((es.take h).drop l).length=h-l:=by simp;omega
 refine ⟨.value (.slice (if c=l then A else A.map (·.add (l*sz))) (h-l) (c-l)),_,w,G1,X,?_,.inl rfl,hG1,Xle.refl X,hM1,?_⟩
 ·simp [execOp,ho,Instr.sliceAt,run_underlying hu,Instr.slice,hxv,hb,zX hs]
 ·rw [V.Is,T.Is];refine ⟨_,c-l,sz',by rw [hlen],by rw [hlen];omega,by omega,?_⟩;by_cases hlh:l=h
  ·left;exact List.eq_nil_of_length_eq_zero (by omega)
  ·rcases hr with rfl | ⟨b,off,cs,rfl,hg,hrows⟩
   ·simp at h2;omega
   ·right;have hss:sz'=sz:=by
     have h0:0 < es.length:=by omega
     obtain ⟨h3,_⟩:=hrows.get 0 es[0] (List.getElem?_eq_getElem h0);rw [<- h3];exact hrow _ (List.getElem_mem h0)
    subst hss;refine ⟨b,off+l*sz',cs,?_,hg,?_⟩
    ·rw [if_neg (by omega)];simp [Addr.add_lit]
    ·rw [<- List.drop_drop];exact (hrows.take h).drop l
theorem zof (hM:Mem P C m w G X) {t e:TypeId} {sz:Nat} (ht:zcw P t=some (e,sz)) {E:Operand->V} {ρ:Operand->Value} (hE:∀ x,V.Is G X (E x) (ρ x)) {o:Oper} {x hi mx:Operand} {n:Nat}
  (ho:o.op=.slice t x none (some hi) (some mx)) (hl:zmO m (E x)=some n) {k1 k2:IntKind} (hhi:E hi=.t (.sc (.int k1 0))) (hmx:E mx=.t (.sc (.int k2 0))):Did P C m G X ((execOp ρ o).run P w) .ze []:=by
 obtain ⟨hu,hs⟩:=zbq ht;obtain ⟨A,c,hx⟩:=zo9 hM hl (hE x);have h1:=hE hi;have h2:=hE mx;rw [hhi,V.Is,T.Is] at h1;rw [hmx,V.Is,T.Is] at h2;have:(execOp ρ o).run P w=.ok (.value (.slice A 0 0)) w:=by
  simp [execOp,ho,Instr.sliceAt,run_underlying hu,Instr.slice,hx,h1,h2,S.v,Instr.sliceBounds,Instr.sliceBound,asIntOf,zX hs]
 rw [this];exact cL hM (by rw [V.Is];exact ⟨A,rfl⟩)
def zqk:List (List T)->Option (List Int)
 | []=>some []
 | [.sc (.int .u8 n)]::r=>match zqk r with
   | some ns=>some (n::ns)
   | none=>none
 | _=>none
theorem zk4:∀ {es:List (List T)} {ns:List Int},zqk es=some ns->es=ns.map fun n=>[T.sc (.int .u8 n)]
 | [],ns,h=>by simp [zqk] at h;subst h;rfl
 | r::es,ns,h=>by
   unfold zqk at h;split at h
   ·simp at h;subst h;rename_i heq;exact heq
   ·rename_i n r' heq;split at h
    ·rename_i ns' hns;simp at h;subst h;simp at heq;obtain ⟨rfl,rfl⟩:=heq;simp [zk4 hns]
    ·cases h
   ·cases h
def zes (ns:List Int):ByteArray:=ns.foldl (fun r n=>r.push (UInt8.ofNat n.toNat)) ByteArray.empty
theorem zke (hM:Mem P C m w G X) {src dst e:TypeId} {sz:Nat} (hsrc:zcw P src=some (e,1)) (hu8:P.underlying e=some (.int .u8)) (hd:P.underlying dst=some .string) {v:V} {es:List (List T)} {ns:List Int} (hv:toT m v=some (.sl es)) (hns:zqk es=some ns)
  {ρ:Operand->Value} {o:Oper} {x:Operand} (ho:o.op=.convert src dst x) (hx:V.Is G X v (ρ x)):Did P C m G X ((execOp ρ o).run P w) (.t (.sc (.str (zes ns)))) (fzU m (fz v)):=by
 obtain ⟨hu,hs⟩:=zbq hsrc;obtain ⟨G1,hG1,hM1⟩:=hM.freezeL (fz v);have hes:=zk4 hns;have hT:T.Is G1 (.sl es) (ρ x):=zfC hM1 (by rw [zdt];exact hv) (fun k hk=>oT _ _ _ (.inr hk)) (V.Is.mono hG1 (Xle.refl X) _ _ hx);obtain ⟨B,c,news,hxv,hl,hrows,hnews,_⟩:=xF hM1.gok hT (sz:=1) (by intro r hr;rw [hes] at hr;simp at hr;obtain ⟨n,_,rfl⟩:=hr;rfl);have hnl:news=ns.map (Value.int .u8):=by
  apply List.ext_getElem?;intro j;rw [List.getElem?_map];cases hj:ns[j]? with
  | none =>
    have:ns.length<=j:=List.getElem?_eq_none_iff.1 hj;simp;rw [hl,hes];simp;exact this
  | some n =>
    obtain ⟨_,h2⟩:=hrows.get j [T.sc (.int .u8 n)] (by rw [hes,List.getElem?_map,hj];rfl);obtain ⟨y,hy,hi⟩:=h2.get 0 _ rfl;rw [T.Is] at hi;rw [List.getElem?_drop,Nat.mul_one,Nat.add_zero] at hy;rw [hy,hi];rfl
 have hrun:(convert src dst (ρ x)).run P w=.ok (.string (zes ns)) w:=by
  rw [hxv,run_convert_bytes_string w src dst e B es.length c hu hu8 hd];rcases Nat.eq_zero_or_pos es.length with h0 | hpos
  ·have hn0:ns=[]:=by rw [hes] at h0;simpa using h0
   subst hn0;cases B with
   | none=>simp [Conv.bytesToString,zes]
   | some a =>
     have:=run_bytesToString (P:=P) w a es.length c [] (by rw [h0];simp [loadCells,loadCellsFrom]);simpa [zes] using this
  ·obtain ⟨a,rfl,hcell⟩:=hnews.resolve_left (by omega);have hlc:=run_loadCells_list (P:=P) w a news hcell;rw [hl,Nat.mul_one,hnl] at hlc;exact run_bytesToString w a es.length c ns hlc
 refine ⟨.value (.string (zes ns)),_,w,G1,X,?_,.inl rfl,hG1,Xle.refl X,hM1,by rw [V.Is,T.Is];rfl⟩;simp [execOp,ho,hrun]
end ops
def qE:Ob->Bool
 | .no=>true
 | _=>false
theorem i8 {o:Ob} (h:qE o=true):o=.no:=by cases o<;>simp [qE] at h ⊢
def zhr (P:Program) (m:Nat->Ob) (k i sz off:Nat) (es:List (List T)) (e:TypeId):V->Option (List (Nat × Ob))
 | .ar d=>match es[i]? with
   | some r=>match r[off]?,m d with
     | some .any,.arr es' e' true=>if kG P e=some sz then some [(d,.dead),(k,.dar (es.set i (r.set off (.ow e' es'))) e)] else none
     | _,_=>none
   | none=>none
 | _=>none
def zaW (P:Program) (m:Nat->Ob) (t:TypeId) (p v:V):Option (List (Nat × Ob)) :=
 if y6 (bZ v)=true/\kG P t=some (bZ v).length then
  match p with
  | .rf k off=>match m k with
    | .box cs=>if off+(bZ v).length<=cs.length then some [(k,.box (cK cs off (bZ v)))] else none
    | _=>none
  | .re k i sz off=>match m k with
    | .arr es e true=>match es[i]?,zaC m (bZ v) with
      | some r,some ts=>if r.length=sz/\kG P e=some sz/\off+(bZ v).length<=sz/\k ∉ (bZ v).flatMap fz then
        some (fzU m ((bZ v).flatMap fz)++[(k,.arr (es.set i (cK r off ts)) e true)]) else none
      | _,_=>none
    | .dar es e=>zhr P m k i sz off es e v
    | _=>none
  | _=>none
 else none
def zqn (P:Program) (id:Nat) (m:Nat->Ob) (t:TypeId):V->Option (V × List (Nat × Ob))
 | .re k i sz off=>match m k with
   | .dar es e=>match es[i]? with
     | some r=>match r[off]? with
       | some (.ow e' es')=>if zag es'=true/\kG P e=some sz/\n9 P t=some false/\qE (m id)=true then some (.ar id,[(k,.dar (es.set i (r.set off .any)) e),(id,.arr es' e' true)]) else none
       | _=>none
     | none=>none
   | _=>none
 | _=>none
def zbh (P:Program) (id:Nat) (m:Nat->Ob) (t:TypeId) (p v:V):Option (V × List (Nat × Ob)) :=
 match zb2 P t,toT m v with
 | some (e,by',sz),some (.sl fs) =>
   if fs.all (fun r=>decide (r.length=sz))=true/\qE (m id)=true/\qE (m (id+1000))=true/\id ∉ fz v/\id+1000 ∉ fz v then
    match p with
    | .ar k=>match app m (fzU m (fz v)) k with
      | .arr es e' md=>if e'=e/\(es.length+fs.length)*by'<=140737488355328 then some (.ar id,fzU m (fz v)++[(k,if md then .dead else .ro es),(id,.arr (es++fs) e md)]) else none
      | .dar es e'=>if e'=e/\(es.length+fs.length)*by'<=140737488355328/\(fs.all fun r=>r.all (T.nisB P))=true then some (.ar id,fzU m (fz v)++[(k,.dead),(id,.dar (es++fs.map (·.map T.nisO)) e)]) else none
      | _=>none
    | .ze=>if fs.length*by'<=140737488355328 then some (.t (.sl fs),fzU m (fz v)) else none
    | .nl=>if fs.length*by'<=140737488355328 then some (.ar id,fzU m (fz v)++[(id+1000,.dead),(id,.arr fs e true)]) else none
    | _=>none
   else none
 | _,_=>none
theorem zgR:∀ (ks:List Nat) (m:Nat->Ob) (j:Nat),j ∉ ks->app m (fzU m ks) j=m j
 | [],m,j,_=>rfl
 | q::ks,m,j,hk=>by
   simp at hk;unfold fzU;split
   ·rw [app,zgR ks _ _ hk.2,aJ _ _ _ hk.1]
   ·exact zgR ks m j hk.2
end Go.Abs
end
section
set_option linter.unusedSimpArgs false
set_option linter.unusedVariables false
namespace Go.Abs
def zjx (P:Program) (id:Nat) (E:Operand->V) (m:Nat->Ob) (b:Builtin):List Operand->List TypeId->Option (V × List (Nat × Ob))
 | [x],[t] =>
   match b with
   | .len=>match P.underlying t with
     | some .string=>match E x with
       | .t (.sc (.str s))=>some (.t (.sc (.int .i64 s.size)),[])
       | _=>none
     | some (.slice _)=>match zmO m (E x) with
       | some n=>some (.t (.sc (.int .i64 n)),[])
       | none=>none
     | _=>none
   | _=>none
 | [x,y],[t,t'] =>
   match b with
   | .append=>if t=t' then zbh P id m t (E x) (E y) else none
   | .max=>match E x,E y with
     | .t (.sc (.int k a)),.t (.sc (.int _ b))=>some (.t (.sc (.int k (if b > a then b else a))),[])
     | _,_=>none
   | _=>none
 | _,_=>none
def zae (P:Program) (id:Nat) (m:Nat->Ob) (t:TypeId) (n:Nat) (parts:List (Nat × V)):Option (V × List (Nat × Ob)) :=
 match zb2 P t with
 | some (e,_,sz)=>match zkk P e with
   | some zt=>if zt.length=sz/\n*sz<=16777216/\qE (m id)=true/\id ∉ parts.flatMap (fun p=>(bZ p.2).flatMap fz) then
     match zcA m sz (List.replicate n zt) parts with
     | some fs=>some (.ar id,fzU m (parts.flatMap (fun p=>(bZ p.2).flatMap fz))++[(id,.arr fs e true)])
     | none=>none
     else none
   | none=>none
 | none=>none
def zi2 (P:Program) (m:Nat->Ob) (t:TypeId) (v:V) (lo hi:Option V):Option (V × List (Nat × Ob)) :=
 match P.underlying t with
 | some .string=>match v with
   | .t (.sc (.str s))=>match bnd 0 lo,bnd s.size hi with
     | some l,some h=>if l<=h/\h<=s.size then some (.t (.sc (.str (s.extract l h))),[]) else none
     | _,_=>none
   | _=>none
 | some (.slice _)=>match zcw P t,toT m v with
   | some (e,sz),some (.sl es)=>match bnd 0 lo,bnd es.length hi with
     | some l,some h=>if l<=h/\h<=es.length/\es.all (fun r=>decide (r.length=sz))=true then some (.t (.sl ((es.take h).drop l)),fzU m (fz v)) else none
     | _,_=>none
   | _,_=>none
 | _=>none
def zdL (P:Program) (m:Nat->Ob) (src dst:TypeId) (v:V):Option (V × List (Nat × Ob)) :=
 match P.underlying src,P.underlying dst with
 | some (.int _),some (.int k)=>match v with
   | .t (.sc (.int _ n))=>some (.t (.sc (.int k (k.wrap n))),[])
   | _=>none
 | some (.slice e),some .string=>match zcw P src,P.underlying e,toT m v with
   | some (_,1),some (.int .u8),some (.sl es)=>match zqk es with
     | some ns=>some (.t (.sc (.str (zes ns))),fzU m (fz v))
     | none=>none
   | _,_,_=>none
 | _,_=>none
def zqv (P:Program) (id:Nat) (m:Nat->Ob) (t:TypeId):V->V->Option (V × List (Nat × Ob))
 | .t (.sc (.int _ a)),.t (.sc (.int _ b))=>match zb2 P t with
   | some (e,by',sz)=>match zkk P e with
     | some zt=>if a=b/\0<=a/\zt.length=sz/\a.toNat*by'<=140737488355328/\qE (m id)=true then some (.ar id,[(id,.arr (List.replicate a.toNat zt) e true)]) else none
     | none=>none
   | none=>none
 | _,_=>none
def lB (P:Program) (id:Nat) (E:Operand->V) (m:Nat->Ob):Op->Option (V × List (Nat × Ob))
 | .move x=>some (E x,[])
 | .assign x=>some (E x,[])
 | .pick c a b=>match E c with
   | .t (.sc (.bool c))=>some (if c=true then E a else E b,[])
   | _=>none
 | .alloc t=>match mG P t with
   | some zs=>if qE (m id)=true then some (.rf id 0,[(id,.box zs)]) else none
   | none=>none
 | .box _ x=>if qE (m id)=true/\xC (E x)=true then some (.rf id 0,[(id,.box (bZ (E x)))]) else none
 | .build t parts=>match mG P t,xZ P t with
   | some zs,some pl=>match zg2 (pl[·]?) zs (parts.toList.map fun p=>(p.1,E p.2)) with
     | some us=>some (.ag us,[])
     | none=>none
   | _,_=>none
 | .buildSlice t n parts=>zae P id m t n (parts.toList.map fun p=>(p.1,E p.2))
 | .load t a=>match oD m (E a) with
   | some cells=>match zcy P t cells with
     | some v=>some (v,[])
     | none=>none
   | none=>zqn P id m t (E a)
 | .store t a x=>match zaW P m t (E a) (E x) with
   | some u=>some (.jk,u)
   | none=>none
 | .nilCheck x=>match E x with
   | .rf k o=>some (.rf k o,[])
   | .pe cs=>some (.pe cs,[])
   | .re k i sz o=>some (.re k i sz o,[])
   | _=>none
 | .binOp op t x y _=>match E x,E y with
   | .sn b _,.nl=>match P.underlying t,op with
     | some (.slice _),.eql=>some (.t (.sc (.bool b)),[])
     | some (.slice _),.neq=>some (.t (.sc (.bool (!b))),[])
     | _,_=>none
   | .t (.sc a),.t (.sc b)=>match zjz op a b with
     | some s=>some (.t (.sc s),[])
     | none=>match zqw P op t a b with
       | some s=>some (.t (.sc s),[])
       | none=>none
   | _,_=>none
 | .unOp op _ x=>match E x with
   | .t (.sc a)=>match aun op a with
     | some s=>some (.t (.sc s),[])
     | none=>none
   | _=>none
 | .convert src dst x=>zdL P m src dst (E x)
 | .makeFunc (.func f) first captured=>if first.size=0 then some (.fn f (captured.toList.map E),[]) else none
 | .makeSlice t x y=>zqv P id m t (E x) (E y)
 | .slice t x lo hi none=>zi2 P m t (E x) (lo.map E) (hi.map E)
 | .slice t x none (some hi) (some mx)=>match zcw P t,zmO m (E x),E hi,E mx with
   | some _,some _,.t (.sc (.int _ a)),.t (.sc (.int _ b))=>if a=0/\b=0 then some (.ze,[]) else none
   | _,_,_,_=>none
 | .fieldAddr s x f=>match jJ P s f with
   | some (off,_)=>match zkA off (E x) with
     | some v=>some (v,[])
     | none=>none
   | none=>none
 | .field s x f=>match jJ P s f,E x with
   | some (off,ft),.ag cs=>match zcy P ft (cs.drop off) with
     | some v=>some (v,[])
     | none=>none
   | _,_=>none
 | .indexAddr t x i=>match zcw P t,E i with
   | some (_,sz),.t (.sc (.int _ i))=>if 0<=i then match zaT m sz i.toNat (E x) with
     | some v=>some (v,[])
     | none=>none
     else none
   | _,_=>none
 | .index t x i=>match P.underlying t,E x,E i with
   | some .string,.t (.sc (.str s)),.t (.sc (.int _ i))=>if 0<=i/\i < s.size then some (.t (.sc (.int .u8 (zaV s i.toNat).toNat)),[]) else none
   | _,_,_=>none
 | .extract x i=>match E x with
   | .tp vs=>match vs[i]? with
     | some v=>some (v,[])
     | none=>none
   | _=>none
 | .call c=>match c.callee with
   | .builtin b=>zjx P id E m b c.args.toList c.argTypes.toList
   | _=>none
 | _=>none
section ops
variable {P:Program} {C:Cx} {m:Nat->Ob} {w:World} {G:Im} {X:Xm}
theorem zpY (hM:Mem P C m w G X) {id:Nat} {E:Operand->V} {ρ:Operand->Value} (hE:∀ x,V.Is G X (E x) (ρ x)) {o:Oper} {c:Call} {b:Builtin} (hc:c.callee=.builtin b) (ho:o.op=.call c) {v:V} {ups:List (Nat × Ob)}
  (h:zjx P id E m b c.args.toList c.argTypes.toList=some (v,ups)):Did P C m G X ((execOp ρ o).run P w) v ups:=by
 obtain ⟨cal,args,tys⟩:=c;obtain ⟨args⟩:=args;obtain ⟨tys⟩:=tys;simp only at hc h;subst hc;unfold zjx at h;split at h
 ·rename_i x t;cases b<;>simp at h;cases hu:P.underlying t with
  | none=>rw [hu] at h;simp at h
  | some d =>
    rw [hu] at h;cases d<;>simp at h
    ·split at h
     ·rename_i s hs;simp at h;obtain ⟨rfl,rfl⟩:=h;have hx:=hE x;rw [hs,V.Is,T.Is] at hx;exact zmp hM hu ho hx
     ·cases h
    ·split at h
     ·rename_i n hn;simp at h;obtain ⟨rfl,rfl⟩:=h;exact zsE hM hu hn ho (hE x)
     ·cases h
 ·rename_i x y t t';cases b<;>simp at h
  ·obtain ⟨rfl,h⟩:=h;unfold zbh at h;split at h
   ·rename_i e by' sz fs hap hfs;split at h
    ·rename_i hc;obtain ⟨hall,hid,hid2,hf1,hf2⟩:=hc;have hrow:∀ r∈fs,r.length=sz:=by simpa using hall
     split at h
     ·rename_i k hk;have hx:=hE x;rw [hk] at hx;split at h
      ·rename_i es e' md hm;split at h
       ·rename_i hb;obtain ⟨rfl,hb⟩:=hb;simp at h;obtain ⟨rfl,rfl⟩:=h;exact zoh hM (i8 hid) hap hfs hm (by rw [zgR _ _ _ hf1];exact i8 hid) hrow hb ho hx (hE y)
       ·cases h
      ·rename_i es e' hm;split at h
       ·rename_i hb;obtain ⟨rfl,hb,hn⟩:=hb;simp at h;obtain ⟨rfl,rfl⟩:=h;exact ziT hM (i8 hid) hap hfs hm (by rw [zgR _ _ _ hf1];exact i8 hid) hrow hb hn ho hx (hE y)
       ·cases h
      ·cases h
     ·rename_i hk;have hx:=hE x;rw [hk] at hx;split at h
      ·rename_i hb;simp at h;obtain ⟨rfl,rfl⟩:=h;exact zkg hM hap hfs hrow hb ho hx (hE y)
      ·cases h
     ·rename_i hk;have hx:=hE x;rw [hk] at hx;split at h
      ·rename_i hb;simp at h;obtain ⟨rfl,rfl⟩:=h;exact ziS hM (i8 hid) (i8 hid2) hap hfs hrow hb (fun k hk=>⟨fun e=>hf1 (e ▸ hk),fun e=>hf2 (e ▸ hk)⟩) ho hx (hE y)
      ·cases h
     ·cases h
    ·cases h
   ·cases h
  ·split at h
   ·rename_i k a k' b ha hb;simp at h;obtain ⟨rfl,rfl⟩:=h;have hx:=hE x;have hy:=hE y;rw [ha,V.Is,T.Is] at hx;rw [hb,V.Is,T.Is] at hy;have:(execOp ρ o).run P w=.ok (.value (.int k (if b > a then b else a))) w:=by
     simp [execOp,ho,resolve,invoke,builtin,Builtin.max_,hx,hy,S.v,Builtin.max2]
    rw [this];exact cL hM (by rw [V.Is,T.Is];rfl)
   ·cases h
 ·cases h
theorem zrf (hM:Mem P C m w G X) {id:Nat} {E:Operand->V} {ρ:Operand->Value} (hE:∀ x,V.Is G X (E x) (ρ x)) {o:Oper} {t:TypeId} {x:Operand} (ho:o.op=.load t x) {v:V} {u:List (Nat × Ob)} (h:zqn P id m t (E x)=some (v,u)) :
  Did P C m G X ((execOp ρ o).run P w) v u:=by
 unfold zqn at h;split at h
 ·rename_i k i sz off hk;have hp:=hE x;rw [hk] at hp;split at h
  ·rename_i es e hm;split at h
   ·rename_i r hr;split at h
    ·rename_i e' es' ht;split at h
     ·rename_i hc;obtain ⟨h1,h2,h3,h4⟩:=hc;simp only [Option.some.injEq,Prod.mk.injEq] at h;obtain ⟨rfl,rfl⟩:=h;exact zlC hM hm h2 hr ht h1 (i8 h4) h3 ho hp
     ·cases h
    ·cases h
   ·cases h
  ·cases h
 ·cases h
theorem zog (hM:Mem P C m w G X) {E:Operand->V} {ρ:Operand->Value} (hE:∀ x,V.Is G X (E x) (ρ x)) {o:Oper} {t:TypeId} {p x:Operand} (ho:o.op=.store t p x) {u:List (Nat × Ob)} (h:zaW P m t (E p) (E x)=some u) :
  Did P C m G X ((execOp ρ o).run P w) .jk u:=by
 unfold zaW at h;split at h
 ·rename_i hc;obtain ⟨hone,hsz⟩:=hc;have hp:=hE p;split at h
  ·rename_i k off hk;rw [hk] at hp;split at h
   ·rename_i cs hm;split at h
    ·rename_i hfit;simp at h;subst h;exact zj7 hM hm ho hp (hE x) hone hsz hfit
    ·cases h
   ·cases h
  ·rename_i k i sz off hk;rw [hk] at hp;split at h
   ·rename_i es e hm;split at h
    ·rename_i r ts hr hts;split at h
     ·rename_i hc;obtain ⟨h1,h2,h3,h4⟩:=hc;simp at h;subst h;exact zj8 hM hm ho hp (hE x) hone hsz hr h1 h2 h3 hts h4
     ·cases h
    ·cases h
   ·rename_i es e hm;unfold zhr at h;split at h
    ·rename_i d hv;split at h
     ·rename_i r hr;split at h
      ·rename_i e' es' ht hd;split at h
       ·rename_i hes;simp only [Option.some.injEq] at h;subst h;have hx:=hE x;rw [hv] at hx hsz;exact zj5 hM hm hes hr ht hd hsz ho hp hx
       ·cases h
      ·cases h
     ·cases h
    ·cases h
   ·cases h
  ·cases h
 ·cases h
theorem zol (hM:Mem P C m w G X) {id:Nat} {E:Operand->V} {ρ:Operand->Value} (hE:∀ x,V.Is G X (E x) (ρ x)) {o:Oper} {v:V} {ups:List (Nat × Ob)} (h:lB P id E m o.op=some (v,ups)) :
  Did P C m G X ((execOp ρ o).run P w) v ups:=by
 cases hop:o.op<;>rw [hop] at h<;>try (simp [lB] at h;done)
 case move x =>
  simp [lB] at h;obtain ⟨rfl,rfl⟩:=h;rw [show (execOp ρ o).run P w=.ok (.value (ρ x)) w by simp [execOp,hop]];exact cL hM (hE x)
 case assign x =>
  simp [lB] at h;obtain ⟨rfl,rfl⟩:=h;rw [show (execOp ρ o).run P w=.ok (.value (ρ x)) w by simp [execOp,hop]];exact cL hM (hE x)
 case pick c a b =>
  simp only [lB] at h;split at h
  ·rename_i c' hc;simp only [Option.some.injEq,Prod.mk.injEq] at h;obtain ⟨rfl,rfl⟩:=h;have hx:=hE c;rw [hc,V.Is,T.Is] at hx;rw [show (execOp ρ o).run P w=.ok (.value (if c'=true then ρ a else ρ b)) w by simp [execOp,hop,hx,S.v,asBool]];refine cL hM ?_;split
   ·exact hE a
   ·exact hE b
  ·cases h
 case alloc t =>
  simp only [lB] at h;split at h
  ·rename_i zs hz;split at h
   ·rename_i hid;simp at h;obtain ⟨rfl,rfl⟩:=h;exact zpX hM (i8 hid) hz hop
   ·cases h
  ·cases h
 case box t x =>
  simp only [lB] at h;split at h
  ·rename_i hc;simp at h;obtain ⟨rfl,rfl⟩:=h;exact zsF hM (i8 hc.1) hop (hE x) hc.2
  ·cases h
 case build t parts =>
  simp only [lB] at h;split at h
  ·rename_i zs pl hz hpl;split at h
   ·rename_i us hf;simp at h;obtain ⟨rfl,rfl⟩:=h;exact zpW hM hz hpl hf hop hE
   ·cases h
  ·cases h
 case buildSlice t n parts =>
  simp only [lB,zae] at h;split at h
  ·rename_i e by' sz hap;split at h
   ·rename_i zt hz;split at h
    ·rename_i hc;obtain ⟨h1,h2,h3,h4⟩:=hc;split at h
     ·rename_i fs hf;simp only [Option.some.injEq,Prod.mk.injEq] at h;obtain ⟨rfl,rfl⟩:=h;exact ziR hM (i8 h3) hap hz h1 h2 hf h4 hop hE
     ·cases h
    ·cases h
   ·cases h
  ·cases h
 case load t a =>
  simp only [lB] at h;split at h
  ·rename_i cells hc;split at h
   ·rename_i v' hv;simp at h;obtain ⟨rfl,rfl⟩:=h;exact zrd hM hc hv hop (hE a)
   ·cases h
  ·exact zrf hM hE hop h
 case store t a x =>
  simp only [lB] at h;split at h
  ·rename_i u hu;simp at h;obtain ⟨rfl,rfl⟩:=h;exact zog hM hE hop hu
  ·cases h
 case nilCheck x =>
  simp only [lB] at h;have hx:=hE x;split at h
  ·rename_i k off hk;simp at h;obtain ⟨rfl,rfl⟩:=h;rw [hk] at hx;have hx2:=hx;rw [V.Is] at hx2;obtain ⟨b,_,hb⟩:=hx2;rw [show (execOp ρ o).run P w=.ok (.value (ρ x)) w by simp [execOp,hop,hb]];exact cL hM hx
  ·rename_i cs hk;simp at h;obtain ⟨rfl,rfl⟩:=h;rw [hk] at hx;have hx2:=hx;rw [V.Is] at hx2;obtain ⟨b,off,row,hb,_⟩:=hx2;rw [show (execOp ρ o).run P w=.ok (.value (ρ x)) w by simp [execOp,hop,hb]];exact cL hM hx
  ·rename_i k i sz off hk;simp at h;obtain ⟨rfl,rfl⟩:=h;rw [hk] at hx;have hx2:=hx;rw [V.Is] at hx2;obtain ⟨b,n,c,_,hb⟩:=hx2;rw [show (execOp ρ o).run P w=.ok (.value (ρ x)) w by simp [execOp,hop,hb]];exact cL hM hx
  ·cases h
 case binOp op xt x y yt =>
  simp only [lB] at h;split at h
  ·rename_i b yy ha hb;have hx:=hE x;have hy:=hE y;rw [ha,V.Is] at hx;rw [hb,V.Is] at hy;obtain ⟨_,A,nn,cc,hx,hA⟩:=hx;have key:∀ el,P.underlying xt=some (.slice el)->(Op.equal xt (.slice A nn cc) (.slice none 0 0)).run P w=.ok b w:=fun el hu=>by
    have:∀ d:Nat,(Op.equalIn (d+1) xt (.slice A nn cc) (.slice none 0 0)).run P w=.ok b w:=fun d=>by
     cases A<;>simp [Op.equalIn,run_underlying hu]<;>simpa using hA
    exact this 9999
   split at h
   ·rename_i el hu;simp only [Option.some.injEq,Prod.mk.injEq] at h;obtain ⟨rfl,rfl⟩:=h;rw [show (execOp ρ o).run P w=.ok (.value (.bool b)) w by simp [execOp,hop,hx,hy,eqGuard,binOp,key el hu]];exact cL hM (by rw [V.Is,T.Is];rfl)
   ·rename_i el hu;simp only [Option.some.injEq,Prod.mk.injEq] at h;obtain ⟨rfl,rfl⟩:=h;rw [show (execOp ρ o).run P w=.ok (.value (.bool (!b))) w by simp [execOp,hop,hx,hy,eqGuard,binOp,key el hu]];exact cL hM (by rw [V.Is,T.Is];rfl)
   ·cases h
  ·rename_i a b ha hb;split at h
   ·rename_i s hs;simp at h;obtain ⟨rfl,rfl⟩:=h;have hx:=hE x;have hy:=hE y;rw [ha,V.Is,T.Is] at hx;rw [hb,V.Is,T.Is] at hy;have hr:=zon (P:=P) hs xt x y w;rw [show (execOp ρ o).run P w=.ok (.value s.v) w by simp only [execOp,hop,hx,hy,Sem.run_bind,Result.andThen] at hr ⊢;rw [hr];rfl];exact cL hM (by rw [V.Is,T.Is])
   ·split at h
    ·rename_i s hs;simp at h;obtain ⟨rfl,rfl⟩:=h;have hx:=hE x;have hy:=hE y;rw [ha,V.Is,T.Is] at hx;rw [hb,V.Is,T.Is] at hy;have hr:=zmu (P:=P) hs x y w;rw [show (execOp ρ o).run P w=.ok (.value s.v) w by simp only [execOp,hop,hx,hy,Sem.run_bind,Result.andThen] at hr ⊢;rw [hr];rfl];exact cL hM (by rw [V.Is,T.Is])
    ·cases h
  ·cases h
 case unOp op xt x =>
  simp only [lB] at h;split at h
  ·rename_i a ha;split at h
   ·rename_i s hs;simp at h;obtain ⟨rfl,rfl⟩:=h;have hx:=hE x;rw [ha,V.Is,T.Is] at hx;rw [show (execOp ρ o).run P w=.ok (.value s.v) w by simp [execOp,hop,hx,zp5 hs]];exact cL hM (by rw [V.Is,T.Is])
   ·cases h
  ·cases h
 case convert src dst x =>
  simp only [lB,zdL] at h;split at h
  ·rename_i k0 k hs hd;split at h
   ·rename_i k1 n hn;simp at h;obtain ⟨rfl,rfl⟩:=h;have hx:=hE x;rw [hn,V.Is,T.Is] at hx;rw [show (execOp ρ o).run P w=.ok (.value (.int k (k.wrap n))) w by simp [execOp,hop,hx,convert,run_underlying hs,run_underlying hd,S.v,Conv.intToInt]];exact cL hM (by rw [V.Is,T.Is];rfl)
   ·cases h
  ·rename_i e hs hd;split at h
   ·rename_i e2 es hel hu8 hT;split at h
    ·rename_i ns hns;simp at h;obtain ⟨rfl,rfl⟩:=h;obtain ⟨h3,_⟩:=zbq hel;rw [hs] at h3;cases h3;exact zke (sz:=1) hM hel hu8 hd hT hns hop (hE x)
    ·cases h
   ·cases h
  ·cases h
 case makeFunc fn first captured =>
  cases fn<;>try (simp [lB] at h;done)
  rename_i f;simp only [lB] at h;split at h
  ·rename_i h0;simp at h;obtain ⟨rfl,rfl⟩:=h;have hf0:first=#[]:=Array.eq_empty_of_size_eq_zero h0
   subst hf0;rw [show (execOp ρ o).run P w=.ok (.value (.func (.func f) #[] (captured.map ρ))) w by simp [execOp,hop,Instr.makeFunc]];refine cL hM ?_;rw [V.Is];refine ⟨captured.map ρ,rfl,V.IsL.of_get (by simp) fun j v hj=>?_⟩;rw [List.getElem?_map] at hj;cases hq:captured.toList[j]? with
   | none=>rw [hq] at hj;simp at hj
   | some y=>rw [hq] at hj;simp at hj;subst hj;exact ⟨ρ y,by simp at hq ⊢;exact ⟨y,hq,rfl⟩,hE y⟩
  ·cases h
 case makeSlice t x y =>
  simp only [lB] at h;unfold zqv at h;split at h
  ·rename_i k a k' b ha hb;split at h
   ·rename_i e by' sz hap;split at h
    ·rename_i zt hz;split at h
     ·rename_i hc;obtain ⟨rfl,h0,h1,h2,h3⟩:=hc;simp at h;obtain ⟨rfl,rfl⟩:=h;have hx:=hE x;have hy:=hE y;rw [ha,V.Is,T.Is] at hx;rw [hb,V.Is,T.Is] at hy;have e1:(a.toNat:Int)=a:=by omega
      exact zka hM (i8 h3) hap hz h1 (k:=k) (k':=k') h2 hop (by rw [hx,e1];rfl) (by rw [hy,e1];rfl)
     ·cases h
    ·cases h
   ·cases h
  ·cases h
 case slice t x lo hi mx =>
  cases mx with
  | some mx =>
    cases lo with
    | some _=>simp [lB] at h
    | none =>
      cases hi with
      | none=>simp [lB] at h
      | some hi =>
        simp only [lB] at h;split at h
        ·rename_i el n k1 a k2 b hel hln hhi hmx;split at h
         ·rename_i hab;obtain ⟨rfl,rfl⟩:=hab;simp only [Option.some.injEq,Prod.mk.injEq] at h;obtain ⟨rfl,rfl⟩:=h;obtain ⟨e,sz⟩:=el;exact zof hM hel hE hop hln hhi hmx
         ·cases h
        ·cases h
  | none =>
    simp only [lB,zi2] at h;split at h
    ·rename_i hu;split at h
     ·rename_i s hs;split at h
      ·rename_i l hh hl hhh;split at h
       ·rename_i hc;simp at h;obtain ⟨rfl,rfl⟩:=h;have hx:=hE x;rw [hs,V.Is,T.Is] at hx;exact zj9 hM hu hE hop hx hl hhh hc.1 hc.2
       ·cases h
      ·cases h
     ·cases h
    ·rename_i e hu;split at h
     ·rename_i e2 sz es hel hT;split at h
      ·rename_i l hh hl hhh;split at h
       ·rename_i hc;simp only [Option.some.injEq,Prod.mk.injEq] at h;obtain ⟨rfl,rfl⟩:=h;exact zpT hM hel hE hop hT (by simpa using hc.2.2) hl hhh hc.1 hc.2.1
       ·cases h
      ·cases h
     ·cases h
    ·cases h
 case fieldAddr s x f =>
  simp only [lB] at h;split at h
  ·rename_i off ft hf;split at h
   ·rename_i v' hv;simp at h;obtain ⟨rfl,rfl⟩:=h;exact zkd hM hf hv hop (hE x)
   ·cases h
  ·cases h
 case field s x f =>
  simp only [lB] at h;split at h
  ·rename_i off ft cs hf hcs;split at h
   ·rename_i v' hv;simp at h;obtain ⟨rfl,rfl⟩:=h;have hx:=hE x;rw [hcs] at hx;exact zpV hM hf hv hop hx
   ·cases h
  ·cases h
 case indexAddr t x i =>
  simp only [lB] at h;split at h
  ·rename_i e sz k n hel hn;split at h
   ·rename_i h0;split at h
    ·rename_i v' hv;simp at h;obtain ⟨rfl,rfl⟩:=h;have hi:=hE i;rw [hn,V.Is,T.Is] at hi;exact zkc hM hel h0 hv hop (hE x) hi
    ·cases h
   ·cases h
  ·cases h
 case index t x i =>
  simp only [lB] at h;split at h
  ·rename_i s k n hu hs hn;split at h
   ·rename_i hc;simp at h;obtain ⟨rfl,rfl⟩:=h;have hx:=hE x;have hi:=hE i;rw [hs,V.Is,T.Is] at hx;rw [hn,V.Is,T.Is] at hi;exact zkb hM hu hc.1 hc.2 hop hx hi
   ·cases h
  ·cases h
 case extract x i =>
  simp only [lB] at h;split at h
  ·rename_i vs hvs;split at h
   ·rename_i v' hv;simp at h;obtain ⟨rfl,rfl⟩:=h;have hx:=hE x;rw [hvs,V.Is] at hx;obtain ⟨xs,hxx,hl⟩:=hx;obtain ⟨y,hy,hi⟩:=hl.get i v' hv;simp at hy;rw [show (execOp ρ o).run P w=.ok (.value y) w by simp [execOp,hop,Instr.extract,hxx,hy]];exact cL hM hi
   ·cases h
  ·cases h
 case call c =>
  simp only [lB] at h;split at h
  ·rename_i b hb;exact zpY hM hE hb hop h
  ·cases h
end ops
end Go.Abs
end
section
set_option linter.unusedSimpArgs false
set_option linter.unusedVariables false
namespace Go.Abs
mutual
def V.ids:V->List Nat
 | .rf k _=>[k]
 | .re k _ _ _=>[k]
 | .ar k=>[k]
 | .ag cs=>V.idsL cs
 | .tp vs=>V.idsL vs
 | .fn _ caps=>V.idsL caps
 | _=>[]
def V.idsL:List V->List Nat
 | []=>[]
 | v::vs=>v.ids++V.idsL vs
end
theorem V.mem_idsL {k:Nat}:∀ {vs:List V} {v:V},v∈vs->k∈v.ids->k∈V.idsL vs
 | v0::vs,v,h,hk=>by
   rw [V.idsL,List.mem_append];simp at h;rcases h with rfl | h
   ·exact .inl hk
   ·exact .inr (V.mem_idsL h hk)
theorem zbV {v:V} {k:Nat} (h:k∈V.idsL (bZ v)):k∈v.ids:=by
 cases v<;>simp [bZ,V.idsL] at h<;>first | exact h | (rw [V.ids];exact h)
theorem zmG {v:V} {k:Nat} (h:k∈fz v):k∈v.ids:=by
 cases v<;>simp [fz] at h;subst h;rw [V.ids];simp
theorem zl5:∀ {vs:List V} {k:Nat},k∈vs.flatMap fz->k∈V.idsL vs
 | v::vs,k,h=>by
   rw [List.flatMap_cons,List.mem_append] at h;rw [V.idsL,List.mem_append];exact h.imp zmG zl5
section
variable {m m':Nat->Ob}
theorem zbl {v:V} (h:∀ k∈v.ids,m' k=m k):toT m' v=toT m v:=by
 cases v<;>simp [toT];rename_i k;rw [h k (by rw [V.ids];simp)]
theorem zbW:∀ {vs:List V},(∀ k∈V.idsL vs,m' k=m k)->zaC m' vs=zaC m vs
 | [],_=>rfl
 | v::vs,h=>by
   simp only [zaC,zbl (fun k hk=>h k (by rw [V.idsL,List.mem_append];exact .inl hk)),zbW (vs:=vs) (fun k hk=>h k (by rw [V.idsL,List.mem_append];exact .inr hk))]
theorem vQ:∀ {ks:List Nat} {m m':Nat->Ob},(∀ k∈ks,m' k=m k)->fzU m' ks=fzU m ks
 | [],_,_,_=>rfl
 | k::ks,m,m',h=>by
   unfold fzU;rw [h k (by simp)];split
   ·rename_i es e hm;rw [vQ (ks:=ks) (m:=upd m k (.arr es e false)) (m':=upd m' k (.arr es e false)) fun j hj=>by
     by_cases hjk:j=k
     ·subst hjk;rw [aE,aE]
     ·rw [aJ _ _ _ hjk,aJ _ _ _ hjk];exact h j (by simp [hj])]
   ·exact vQ fun j hj=>h j (by simp [hj])
theorem zc:∀ (u:List (Nat × Ob)) {m m':Nat->Ob} {k:Nat},m' k=m k->app m' u k=app m u k
 | [],_,_,_,h=>h
 | (j,o)::u,m,m',k,h=>by
   rw [app,app];refine zc u ?_;by_cases hjk:k=j
   ·subst hjk;rw [aE,aE]
   ·rw [aJ _ _ _ hjk,aJ _ _ _ hjk];exact h
theorem zje {v:V} (h:∀ k∈v.ids,m' k=m k):zmO m' v=zmO m v:=by
 cases v with
 | ar k=>simp only [zmO];rw [h k (by rw [V.ids];simp)]
 | t x=>cases x<;>rfl
 | sn b x=>cases x<;>rfl
 | _=>rfl
theorem zkh {v:V} (h:∀ k∈v.ids,m' k=m k):oD m' v=oD m v:=by
 cases v<;>simp [oD]
 ·rename_i k off;rw [h k (by rw [V.ids];simp)]
 ·rename_i k i sz off;rw [h k (by rw [V.ids];simp)]
theorem zlt {v:V} {sz i:Nat} (h:∀ k∈v.ids,m' k=m k):zaT m' sz i v=zaT m sz i v:=by
 cases v with
 | ar k=>simp only [zaT];rw [h k (by rw [V.ids];simp)]
 | t x=>cases x<;>rfl
 | _=>rfl
theorem zh4 {sz:Nat}:∀ {parts:List (Nat × V)} {es:List (List T)},(∀ p∈parts,∀ k∈p.2.ids,m' k=m k)->zcA m' sz es parts=zcA m sz es parts
 | [],_,_=>rfl
 | (i,v)::r,es,h=>by
   have e1:zaC m' (bZ v)=zaC m (bZ v):=zbW fun k hk=>h (i,v) (by simp) k (zbV hk)
   simp only [zcA,e1];split
   ·split
    ·split
     ·exact zh4 fun p hp=>h p (by simp [hp])
     ·rfl
    ·rfl
   ·rfl
theorem zlD {P:Program} {t:TypeId} {p v:V} (h:∀ k∈p.ids++v.ids,m' k=m k):zaW P m' t p v=zaW P m t p v:=by
 have e1:zaC m' (bZ v)=zaC m (bZ v):=zbW fun k hk=>h k (by simp [zbV hk])
 have e2:fzU m' ((bZ v).flatMap fz)=fzU m ((bZ v).flatMap fz):=vQ fun k hk=>h k (by simp [zbV (zl5 hk)])
 unfold zaW;rw [e1,e2];cases p<;>try rfl
 ·rename_i k off;simp only [h k (by simp [V.ids])]
 ·rename_i k i sz off;have hd:∀ es e,zhr P m' k i sz off es e v=zhr P m k i sz off es e v:=fun es e=>by
   cases v with
   | ar d=>simp only [zhr,h d (by simp [V.ids])]
   | _=>rfl
  simp only [h k (by simp [V.ids]),hd]
theorem zok {P:Program} {id:Nat} {t:TypeId} {v:V} (h:∀ k∈v.ids++[id],m' k=m k):zqn P id m' t v=zqn P id m t v:=by
 cases v<;>try rfl
 rename_i k i sz off;unfold zqn;simp only [h k (by simp [V.ids]),h id (by simp)]
theorem zkj {P:Program} {id:Nat} {t:TypeId} {p v:V} (h:∀ k∈p.ids++v.ids++[id,id+1000],m' k=m k):zbh P id m' t p v=zbh P id m t p v:=by
 have e1:toT m' v=toT m v:=zbl fun k hk=>h k (by simp [hk])
 have e2:fzU m' (fz v)=fzU m (fz v):=vQ fun k hk=>h k (by simp [zmG hk])
 unfold zbh;rw [e1,e2,h id (by simp),h (id+1000) (by simp)];cases p<;>try rfl
 rename_i k;simp only [zc _ (h k (by simp [V.ids]))]
end
def stT:Op->Option (Operand × Operand)
 | .store _ a x=>some (a,x)
 | _=>none
def zlL (E:Operand->V) (o:Op):List Nat:=match stT o with
 | some (a,_)=>match E a with
   | .rf k _=>[k]
   | _=>V.idsL (o.operands.toList.map E)
 | none=>V.idsL (o.operands.toList.map E)
def jI (id:Nat) (E:Operand->V) (o:Op):List Nat:=zlL E o++[id,id+1000]
theorem zh1 {E E':Operand->V} {o:Op} (h:∀ x∈o.operands.toList,E' x=E x):zlL E' o=zlL E o:=by
 unfold zlL;rw [List.map_congr_left h];cases o<;>try rfl
 rename_i t a x;simp only [stT,h a (by simp [Op.operands])]
theorem zoQ {id:Nat} {E:Operand->V} {o:Op} {x:Operand} {k:Nat} (hs:stT o=none) (hx:x∈o.operands.toList) (hk:k∈(E x).ids):k∈jI id E o:=by
 unfold jI zlL;rw [hs];rw [List.mem_append];exact .inl (V.mem_idsL (List.mem_map.2 ⟨x,hx,rfl⟩) hk)
theorem zkV {E E':Operand->V} {parts:List (Nat × Operand)} (h:∀ p∈parts,E' p.2=E p.2):parts.map (fun p=>(p.1,E' p.2))=parts.map fun p=>(p.1,E p.2) :=
 List.map_congr_left fun p hp=>by rw [h p hp]
theorem zom {P:Program} {id:Nat} {E E':Operand->V} {m m':Nat->Ob} {o:Op} (hE:∀ x∈o.operands.toList,E' x=E x) (hm:∀ k∈jI id E o,m' k=m k):lB P id E' m' o=lB P id E m o:=by
 have hid:m' id=m id:=hm id (by simp [jI]);have hid2:m' (id+1000)=m (id+1000):=hm (id+1000) (by simp [jI]);by_cases hst:stT o=none
 case neg =>
  cases o<;>try (exact absurd rfl hst)
  rename_i t a x;simp only [lB,hE a (by simp [Op.operands]),hE x (by simp [Op.operands])];have e1:zaW P m' t (E a) (E x)=zaW P m t (E a) (E x):=by
   by_cases hr:∃ k off,E a=.rf k off
   ·obtain ⟨k,off,hr⟩:=hr;have hmk:m' k=m k:=hm k (by simp [jI,zlL,stT,hr]);rw [hr];unfold zaW;simp only [hmk]
   ·have hfp:jI id E (.store t a x)=V.idsL ((Op.store t a x).operands.toList.map E)++[id,id+1000]:=by
     unfold jI zlL;simp only [stT];split
     ·rename_i k off he;exact absurd ⟨k,off,he⟩ hr
     ·rfl
    have hk:∀ y∈(Op.store t a x).operands.toList,∀ k∈(E y).ids,m' k=m k:=fun y hy k hk=>hm k (by rw [hfp,List.mem_append];exact .inl (V.mem_idsL (List.mem_map.2 ⟨y,hy,rfl⟩) hk))
    exact zlD fun k hkk=>by
     rw [List.mem_append] at hkk;exact hkk.elim (hk a (by simp [Op.operands]) k) (hk x (by simp [Op.operands]) k)
  rw [e1]
 have hk:∀ x∈o.operands.toList,∀ k∈(E x).ids,m' k=m k:=fun x hx k hk=>hm k (zoQ hst hx hk)
 cases o<;>try rfl
 case move x=>simp only [lB,hE x (by simp [Op.operands])]
 case assign x=>simp only [lB,hE x (by simp [Op.operands])]
 case pick c a b=>simp only [lB,hE c (by simp [Op.operands]),hE a (by simp [Op.operands]),hE b (by simp [Op.operands])]
 case alloc t=>simp only [lB,hid]
 case box t x=>simp only [lB,hid,hE x (by simp [Op.operands])]
 case build t parts =>
  simp only [lB];rw [zkV fun p hp=>hE p.2 (by simp [Op.operands];exact ⟨p.1,by simpa using hp⟩)]
 case buildSlice t n parts =>
  have e0:(parts.toList.map fun p=>(p.1,E' p.2))=parts.toList.map fun p=>(p.1,E p.2):=zkV fun p hp=>hE p.2 (by simp [Op.operands];exact ⟨p.1,by simpa using hp⟩)
  simp only [lB];rw [e0];have hall:∀ p∈parts.toList.map (fun p=>(p.1,E p.2)),∀ k∈p.2.ids,m' k=m k:=by
   intro p hp k hkk;simp only [List.mem_map] at hp;obtain ⟨q,hq,rfl⟩:=hp;exact hk q.2 (by simp [Op.operands];exact ⟨q.1,by simpa using hq⟩) k hkk
  have e1:fzU m' ((parts.toList.map fun p=>(p.1,E p.2)).flatMap fun p=>(bZ p.2).flatMap fz)=fzU m ((parts.toList.map fun p=>(p.1,E p.2)).flatMap fun p=>(bZ p.2).flatMap fz):=vQ fun k hkk=>by
   rw [List.mem_flatMap] at hkk;obtain ⟨p,hp,hkp⟩:=hkk;exact hall p hp k (zbV (zl5 hkp))
  unfold zae;rw [e1,hid];simp only [zh4 hall]
 case load t a =>
  simp only [lB,hE a (by simp [Op.operands])];rw [zkh (hk a (by simp [Op.operands]))];have e1:zqn P id m' t (E a)=zqn P id m t (E a):=zok (fun k hkk=>by
   rw [List.mem_append,List.mem_singleton] at hkk;rcases hkk with hkk | rfl
   ·exact hk a (by simp [Op.operands]) k hkk
   ·exact hid)
  rw [e1]
 case store t a x=>cases hst
 case nilCheck x=>simp only [lB,hE x (by simp [Op.operands])]
 case binOp op xt x y yt=>simp only [lB,hE x (by simp [Op.operands]),hE y (by simp [Op.operands])]
 case unOp op xt x=>simp only [lB,hE x (by simp [Op.operands])]
 case convert src dst x =>
  simp only [lB,hE x (by simp [Op.operands])];have h1:=hk x (by simp [Op.operands]);unfold zdL;rw [zbl h1,vQ fun k hkk=>h1 k (zmG hkk)]
 case makeFunc fn first captured =>
  cases fn<;>try rfl
  simp only [lB];rw [List.map_congr_left fun x hx=>hE x (by simp [Op.operands];right;simpa using hx)]
 case makeSlice t x y=>simp only [lB,hE x (by simp [Op.operands]),hE y (by simp [Op.operands])];unfold zqv;rw [hid]
 case slice t x lo hi mx =>
  cases mx with
  | some mx =>
    cases lo with
    | some _=>rfl
    | none =>
      cases hi with
      | none=>rfl
      | some hi =>
        have h1:=hk x (by simp [Op.operands]);simp only [lB,hE x (by simp [Op.operands]),hE hi (by simp [Op.operands]),hE mx (by simp [Op.operands]),zje h1]
  | none =>
    simp only [lB,hE x (by simp [Op.operands])];have h1:=hk x (by simp [Op.operands]);have e1:lo.map E'=lo.map E:=by cases lo<;>simp;rename_i y;exact hE y (by simp [Op.operands])
    have e2:hi.map E'=hi.map E:=by cases hi<;>simp;rename_i y;exact hE y (by simp [Op.operands])
    rw [e1,e2];unfold zi2;rw [zbl h1,vQ fun k hkk=>h1 k (zmG hkk)]
 case fieldAddr s x f=>simp only [lB,hE x (by simp [Op.operands])]
 case field s x f=>simp only [lB,hE x (by simp [Op.operands])]
 case indexAddr t x i =>
  simp only [lB,hE x (by simp [Op.operands]),hE i (by simp [Op.operands])];simp only [zlt (hk x (by simp [Op.operands]))]
 case index t x i=>simp only [lB,hE x (by simp [Op.operands]),hE i (by simp [Op.operands])]
 case extract x i=>simp only [lB,hE x (by simp [Op.operands])]
 case call c =>
  simp only [lB];split
  ·rename_i b hb;have hargs:∀ x∈c.args.toList,x∈(Op.call c).operands.toList:=fun x hx=>by simp [Op.operands,Call.operands,hb];simpa using hx
   unfold zjx;split
   ·rename_i x t hx _;have h1:=hargs x (by rw [hx];simp);rw [hE x h1,zje (hk x h1)]
   ·rename_i x y t t' hxy _;have h1:=hargs x (by rw [hxy];simp);have h2:=hargs y (by rw [hxy];simp);rw [hE x h1,hE y h2,zkj fun k hkk=>by
     simp only [List.mem_append,List.mem_cons,List.not_mem_nil,or_false] at hkk;rcases hkk with (hkk | hkk) | rfl | rfl
     ·exact hk x h1 k hkk
     ·exact hk y h2 k hkk
     ·exact hid
     ·exact hid2]
   ·rfl
  ·rfl
end Go.Abs
end
section
set_option linter.unusedSimpArgs false
set_option linter.unusedVariables false
namespace Go.Abs
mutual
def V.ren (q:Nat->Nat):V->V
 | .rf k o=>.rf (q k) o
 | .re k i sz o=>.re (q k) i sz o
 | .ar k=>.ar (q k)
 | .ag cs=>.ag (V.renL q cs)
 | .tp vs=>.tp (V.renL q vs)
 | .fn f caps=>.fn f (V.renL q caps)
 | .t x=>.t x
 | .nl=>.nl
 | .pe cs=>.pe cs
 | .jk=>.jk
 | .ze=>.ze
 | .sn b y=>.sn b y
def V.renL (q:Nat->Nat):List V->List V
 | []=>[]
 | v::vs=>V.ren q v::V.renL q vs
end
def Ob.ren (q:Nat->Nat):Ob->Ob
 | .box cs=>.box (V.renL q cs)
 | .dah es e hs=>.dah es e (hs.map fun h=>(h.1,h.2.1,q h.2.2))
 | o=>o
theorem zpg {q:Nat->Nat} {hs:List (Nat × Nat × Nat)} (h:∀ z∈hs,q z.2.2=z.2.2):(hs.map fun h=>(h.1,h.2.1,q h.2.2))=hs:=by
 conv=>rhs;rw [<- List.map_id hs]
 exact List.map_congr_left (fun z hz=>by rw [h z hz];rfl)
def Ob.ids:Ob->List Nat
 | .box cs=>V.idsL cs
 | .dah _ _ hs=>hs.map (·.2.2)
 | _=>[]
mutual
theorem V.Is.ren {G:Im} {X Y:Xm} {q:Nat->Nat}:∀ (v:V) (x:Value),(∀ k∈v.ids,∀ y,X k=some y->Y (q k)=some y)->V.Is G X v x->V.Is G Y (v.ren q) x
 | .t y,x,_,h=>by rw [V.ren];rw [V.Is] at h ⊢;exact h
 | .nl,x,_,h=>by rw [V.ren];rw [V.Is] at h ⊢;exact h
 | .pe cs,x,_,h=>by rw [V.ren];rw [V.Is] at h ⊢;exact h
 | .jk,x,_,h=>by rw [V.ren,V.Is];trivial
 | .ze,x,_,h=>by rw [V.ren];rw [V.Is] at h ⊢;exact h
 | .sn _ _,x,_,h=>by rw [V.ren];rw [V.Is] at h ⊢;exact h
 | .rf k o,x,hq,h=>by
   rw [V.ren];rw [V.Is] at h ⊢;obtain ⟨b,h1,h2⟩:=h;exact ⟨b,hq k (by simp [V.ids]) _ h1,h2⟩
 | .re k i sz o,x,hq,h=>by
   rw [V.ren];rw [V.Is] at h ⊢;obtain ⟨b,n,c,h1,h2⟩:=h;exact ⟨b,n,c,hq k (by simp [V.ids]) _ h1,h2⟩
 | .ar k,x,hq,h=>by rw [V.ren];rw [V.Is] at h ⊢;exact hq k (by simp [V.ids]) _ h
 | .ag cs,x,hq,h=>by rw [V.ren];rw [V.Is] at h ⊢;obtain ⟨xs,h1,h2⟩:=h;exact ⟨xs,h1,V.IsL.ren cs _ (by rw [V.ids] at hq;exact hq) h2⟩
 | .tp cs,x,hq,h=>by rw [V.ren];rw [V.Is] at h ⊢;obtain ⟨xs,h1,h2⟩:=h;exact ⟨xs,h1,V.IsL.ren cs _ (by rw [V.ids] at hq;exact hq) h2⟩
 | .fn f cs,x,hq,h=>by rw [V.ren];rw [V.Is] at h ⊢;obtain ⟨xs,h1,h2⟩:=h;exact ⟨xs,h1,V.IsL.ren cs _ (by rw [V.ids] at hq;exact hq) h2⟩
theorem V.IsL.ren {G:Im} {X Y:Xm} {q:Nat->Nat}:∀ (vs:List V) (xs:List Value),(∀ k∈V.idsL vs,∀ y,X k=some y->Y (q k)=some y)->V.IsL G X vs xs->V.IsL G Y (V.renL q vs) xs
 | [],xs,_,h=>by rw [V.renL];rw [V.IsL] at h ⊢;exact h
 | v::vs,xs,hq,h=>by
   rw [V.renL];rw [V.IsL] at h ⊢;obtain ⟨y,ys,h1,h2,h3⟩:=h;exact ⟨y,ys,h1,V.Is.ren v y (fun k hk=>hq k (by simp [V.idsL,hk])) h2,V.IsL.ren vs ys (fun k hk=>hq k (by simp [V.idsL,hk])) h3⟩
end
mutual
theorem V.Is.unren {G:Im} {X Y:Xm} {q:Nat->Nat}:∀ (v:V) (x:Value),(∀ k∈v.ids,∀ y,Y (q k)=some y->X k=some y)->V.Is G Y (v.ren q) x->V.Is G X v x
 | .t y,x,_,h=>by rw [V.ren] at h;rw [V.Is] at h ⊢;exact h
 | .nl,x,_,h=>by rw [V.ren] at h;rw [V.Is] at h ⊢;exact h
 | .pe cs,x,_,h=>by rw [V.ren] at h;rw [V.Is] at h ⊢;exact h
 | .jk,x,_,h=>by rw [V.Is];trivial
 | .ze,x,_,h=>by rw [V.ren] at h;rw [V.Is] at h ⊢;exact h
 | .sn _ _,x,_,h=>by rw [V.ren] at h;rw [V.Is] at h ⊢;exact h
 | .rf k o,x,hq,h=>by
   rw [V.ren] at h;rw [V.Is] at h ⊢;obtain ⟨b,h1,h2⟩:=h;exact ⟨b,hq k (by simp [V.ids]) _ h1,h2⟩
 | .re k i sz o,x,hq,h=>by
   rw [V.ren] at h;rw [V.Is] at h ⊢;obtain ⟨b,n,c,h1,h2⟩:=h;exact ⟨b,n,c,hq k (by simp [V.ids]) _ h1,h2⟩
 | .ar k,x,hq,h=>by rw [V.ren] at h;rw [V.Is] at h ⊢;exact hq k (by simp [V.ids]) _ h
 | .ag cs,x,hq,h=>by rw [V.ren] at h;rw [V.Is] at h ⊢;obtain ⟨xs,h1,h2⟩:=h;exact ⟨xs,h1,V.IsL.unren cs _ (by rw [V.ids] at hq;exact hq) h2⟩
 | .tp cs,x,hq,h=>by rw [V.ren] at h;rw [V.Is] at h ⊢;obtain ⟨xs,h1,h2⟩:=h;exact ⟨xs,h1,V.IsL.unren cs _ (by rw [V.ids] at hq;exact hq) h2⟩
 | .fn f cs,x,hq,h=>by rw [V.ren] at h;rw [V.Is] at h ⊢;obtain ⟨xs,h1,h2⟩:=h;exact ⟨xs,h1,V.IsL.unren cs _ (by rw [V.ids] at hq;exact hq) h2⟩
theorem V.IsL.unren {G:Im} {X Y:Xm} {q:Nat->Nat}:∀ (vs:List V) (xs:List Value),(∀ k∈V.idsL vs,∀ y,Y (q k)=some y->X k=some y)->V.IsL G Y (V.renL q vs) xs->V.IsL G X vs xs
 | [],xs,_,h=>by rw [V.renL] at h;rw [V.IsL] at h ⊢;exact h
 | v::vs,xs,hq,h=>by
   rw [V.renL] at h;rw [V.IsL] at h ⊢;obtain ⟨y,ys,h1,h2,h3⟩:=h;exact ⟨y,ys,h1,V.Is.unren v y (fun k hk=>hq k (by simp [V.idsL,hk])) h2,V.IsL.unren vs ys (fun k hk=>hq k (by simp [V.idsL,hk])) h3⟩
end
def AC (P:Program) (f:FuncId) (args:List V) (os:Nat->Ob) (r:V) (os':Nat->Ob):Prop :=
 (∃ fn,P.funcs[f]?=some fn/\fn.body.isSome=true/\(fn.name == "runtime.NumGoroutine")=false) /\
 ∀ (w:World) (G:Im) (X:Xm) (own:Nat->Prop) (xs:List Value),Mem P ⟨w,G,own,X⟩ os w G X->V.IsL G X args xs ->
   Calls P f xs.toArray w fun e w'=>∃ x G' X',e=.returned x/\Mem P ⟨w,G,own,X⟩ os' w' G' X'/\V.Is G' X' r x
def qOf:List (Nat × Nat)->Nat->Nat
 | [],k=>k
 | (a,b)::r,k=>if k=a then b else qOf r k
theorem zlV:∀ {D:List (Nat × Nat)} {k j:Nat},(D.map (·.1)).Nodup->(k,j)∈D->qOf D k=j
 | (a,b)::r,k,j,hn,h=>by
   simp at hn h;unfold qOf;rcases h with ⟨rfl,rfl⟩ | h
   ·simp
   ·rw [if_neg (by rintro rfl;exact hn.1 j h)];exact zlV hn.2 h
def zot (m:Nat->Ob) (q:Nat->Nat) (ks:List Nat) (os:Nat->Ob) (v c:V):Prop :=
 (c.ren q=v/\∀ k∈c.ids,os k≠.no)∨(∃ t,toT m v=some t/\c=.t t/\∀ k∈fz v,k∈ks)∨(∃ vs ts,v=.ag vs/\zaC m vs=some ts/\c=.ag (ts.map .t)/\∀ k∈vs.flatMap fz,k∈ks)
def zaR (m:Nat->Ob) (q:Nat->Nat) (ks:List Nat) (os:Nat->Ob):List V->List V->Prop
 | [],[]=>True
 | v::vs,c::cs=>zot m q ks os v c/\zaR m q ks os vs cs
 | _,_=>False
def zbQ (os':Nat->Ob) (q:Nat->Nat) (D:List (Nat × Nat)):List (Nat × Ob):=D.map fun p=>(p.2,match os' p.1 with | .no=>.dead | o=>o.ren q)
theorem zpl:∀ (u:List (Nat × Ob)) (m:Nat->Ob) (j:Nat) (o:Ob),(u.map (·.1)).Nodup->(j,o)∈u->app m u j=o
 | (a,b)::r,m,j,o,hn,h=>by
   simp at hn h;rw [app];rcases h with ⟨rfl,rfl⟩ | h
   ·have:∀ (u:List (Nat × Ob)) (m:Nat->Ob),(∀ o,(j,o) ∉ u)->app m u j=m j:=by
     intro u;induction u with
     | nil=>intro m _;rfl
     | cons x u ih =>
       obtain ⟨a,b⟩:=x;intro m hu;rw [app,ih _ (fun o ho=>hu o (by simp [ho])),aJ _ _ _ (fun e=>hu b (by simp [e]))]
    rw [this r _ (fun o ho=>hn.1 o ho),aE]
   ·exact zpl r _ j o hn.2 h
theorem nP:∀ (u:List (Nat × Ob)) (m:Nat->Ob) (j:Nat),j ∉ u.map (·.1)->app m u j=m j
 | [],_,_,_=>rfl
 | (a,b)::r,m,j,h=>by
   simp at h;rw [app,nP r _ j (by simpa using h.2),aJ _ _ _ h.1]
section
variable {P:Program} {C:Cx} {m:Nat->Ob} {w:World} {G:Im} {X:Xm}
theorem zot.is (hM:Mem P C m w G X) {q:Nat->Nat} {ks:List Nat} {os:Nat->Ob} {v c:V} {x:Value} (h:zot m q ks os v c) (hun:∀ k∈ks,zit m k) {Xc:Xm} (hX:∀ k,os k≠.no->∀ y,X (q k)=some y->Xc k=some y) (hi:V.Is G X v x):V.Is G Xc c x:=by
 rcases h with ⟨h1,h2⟩ | ⟨t,h1,rfl,h3⟩ | ⟨vs,ts,rfl,h1,rfl,h3⟩
 ·exact V.Is.unren c x (fun k hk=>hX k (h2 k hk)) (by rw [h1];exact hi)
 ·rw [V.Is];exact zfC hM h1 (fun k hk=>hun k (h3 k hk)) hi
 ·rw [V.Is] at hi ⊢;obtain ⟨xs,hx,hl⟩:=hi;obtain ⟨h4,h5⟩:=zhb hM h1 (fun k hk=>hun k (h3 k hk)) hl;refine ⟨xs,hx,V.IsL.of_get (by simp [<- h4]) fun j v hv=>?_⟩;rw [List.getElem?_map] at hv;cases ht:ts[j]? with
  | none=>rw [ht] at hv;simp at hv
  | some t=>rw [ht] at hv;simp at hv;subst hv;obtain ⟨y,hy,hi⟩:=h5.get j t ht;exact ⟨y,hy,by rw [V.Is];exact hi⟩
theorem zaR.is (hM:Mem P C m w G X) {q:Nat->Nat} {ks:List Nat} {os:Nat->Ob} (hun:∀ k∈ks,zit m k) {Xc:Xm} (hX:∀ k,os k≠.no->∀ y,X (q k)=some y->Xc k=some y):∀ {vs cs:List V} {xs:List Value},zaR m q ks os vs cs->V.IsL G X vs xs->V.IsL G Xc cs xs
 | [],[],xs,_,h=>by rw [V.IsL] at h ⊢;exact h
 | v::vs,c::cs,xs,h,hi=>by
   rw [V.IsL] at hi ⊢;obtain ⟨y,ys,h1,h2,h3⟩:=hi;exact ⟨y,ys,h1,zot.is hM h.1 hun hX h2,zaR.is hM hun hX h.2 h3⟩
 | [],_::_,_,h,_=>h.elim
 | _::_,[],_,h,_=>h.elim
theorem Ob.ren_ids_Ok {o:Ob} {x:Value} {Xc:Xm} {q:Nat->Nat} (hq:∀ k∈o.ids,∀ y,X (q k)=some y->Xc k=some y) (h:Ob.Ok P G X w (o.ren q) x):Ob.Ok P G Xc w o x:=by
 cases o with
 | box cs =>
   obtain ⟨b,cur,e,h1,h2,h3,h4⟩:=h;exact ⟨b,cur,e,h1,h2,V.IsL.unren cs _ (fun k hk=>hq k hk) h3,h4⟩
 | dah es e hs =>
   obtain ⟨h1,h2,h0⟩:=h;refine ⟨h1,h2,fun z hz=>?_⟩;obtain ⟨a,n,c,inf,y,h3,h4,h5,h6⟩:=h0 _ (List.mem_map_of_mem hz);exact ⟨a,n,c,inf,y,h3,h4,hq z.2.2 (List.mem_map_of_mem (f:=fun h:Nat × Nat × Nat=>h.2.2) hz) y h5,h6⟩
 | _=>exact h
theorem Ob.Ok_ren {o:Ob} {x:Value} {Y:Xm} {q:Nat->Nat} (hq:∀ k∈o.ids,∀ y,X k=some y->Y (q k)=some y) (h:Ob.Ok P G X w o x):Ob.Ok P G Y w (o.ren q) x:=by
 cases o with
 | box cs =>
   obtain ⟨b,cur,e,h1,h2,h3,h4⟩:=h;exact ⟨b,cur,e,h1,h2,V.IsL.ren cs _ (fun k hk=>hq k hk) h3,h4⟩
 | dah es e hs =>
   obtain ⟨h1,h2,h0⟩:=h;refine ⟨h1,h2,fun z hz=>?_⟩;obtain ⟨z0,hz0,rfl⟩:=List.mem_map.1 hz;obtain ⟨a,n,c,inf,y,h3,h4,h5,h6⟩:=h0 z0 hz0;exact ⟨a,n,c,inf,y,h3,h4,hq z0.2.2 (List.mem_map_of_mem (f:=fun h:Nat × Nat × Nat=>h.2.2) hz0) y h5,h6⟩
 | _=>exact h
theorem Ob.has_ren (o:Ob) (q:Nat->Nat) (x:Value) (b:Nat):Ob.has w (o.ren q) x b↔Ob.has w o x b:=by
 cases o<;>first | exact Iff.rfl | (cases x<;>first | exact Iff.rfl | (rename_i a;cases a<;>exact Iff.rfl))
theorem Ob.ren_no {o:Ob} {q:Nat->Nat}:o.ren q=.no↔o=.no:=by cases o<;>simp [Ob.ren]
theorem Mem.hand (hM:Mem P C m w G X) {D:List (Nat × Nat)} {os:Nat->Ob} (hD1:(D.map (·.1)).Nodup) (hD2:(D.map (·.2)).Nodup) (hdom:∀ k,os k≠.no->k∈D.map (·.1))
  (hos:∀ p∈D,os p.1≠.no->m p.2=(os p.1).ren (qOf D)/\∀ k∈(os p.1).ids,os k≠.no) :
  Mem P ⟨w,G,fun b=>∃ k x,X (qOf D k)=some x/\os k≠.no/\(os k).has w x b,fun k=>match os k with | .no=>none | _=>X (qOf D k)⟩ os w G (fun k=>match os k with | .no=>none | _=>X (qOf D k)):=by
 have hX:∀ k y,(match os k with | .no=>none | _=>X (qOf D k))=some y->os k≠.no/\X (qOf D k)=some y:=by
  intro k y h;cases ho:os k<;>rw [ho] at h<;>simp at h<;>exact ⟨by simp,h⟩
 have hX':∀ k,os k≠.no->(match os k with | .no=>none | _=>X (qOf D k))=X (qOf D k):=by
  intro k h;cases ho:os k<;>simp_all
 have hmem:∀ k,os k≠.no->(k,qOf D k)∈D:=by
  intro k h;obtain ⟨p,hp,hk⟩:=List.mem_map.1 (hdom k h);obtain ⟨a,b⟩:=p;simp at hk;subst hk;rw [zlV hD1 hp];exact hp
 refine ⟨⟨⟨hM.tabW,fun p hp g hg hc ho=>?_⟩,Gle.refl G⟩,fun _ _ _=>rfl,hM.gok,zdr.refl _ w,?_,?_,?_,?_,?_,fun _ _ h=>h⟩
 ·obtain ⟨k,x,h1,h2,h3⟩:=ho;obtain ⟨h4,_⟩:=hos _ (hmem k h2) h2;refine hM.tabNo hp hg hc h1 ?_;rw [show m (qOf D k)=(os k).ren (qOf D) from h4];exact (Ob.has_ren _ _ _ _).2 h3
 ·intro k x hx;obtain ⟨h1,h2⟩:=hX k x hx;obtain ⟨h3,h4⟩:=hos _ (hmem k h1) h1;have ho:=hM.ob _ _ h2;simp only at h3;rw [h3] at ho;exact Ob.ren_ids_Ok (fun j hj y hy=>by rw [hX' j (h4 j hj)];exact hy) ho
 ·intro k;constructor
  ·intro h;cases ho:os k with
   | no=>rfl
   | _ =>
     have hne:os k≠.no:=by rw [ho];simp
     rw [hX' k hne] at h;have:=(hM.free _).1 h;rw [(hos _ (hmem k hne) hne).1] at this;exact absurd (Ob.ren_no.1 this) hne
  ·intro h;rw [h]
 ·intro k k' x x' b hx hx' hb hb';obtain ⟨h1,h2⟩:=hX k x hx;obtain ⟨h1',h2'⟩:=hX k' x' hx';have e1:=(hos _ (hmem k h1) h1).1;have e2:=(hos _ (hmem k' h1') h1').1;simp only at e1 e2;have:=hM.apart _ _ _ _ b h2 h2' (by rw [e1,Ob.has_ren];exact hb) (by rw [e2,Ob.has_ren];exact hb');have hp:=hmem k h1;have hp':=hmem k' h1';rw [this] at hp
  -- the second names are distinct
  have inj:∀ (D:List (Nat × Nat)),(D.map (·.2)).Nodup->∀ a b c,(a,c)∈D->(b,c)∈D->a=b:=by
   intro D;induction D with
   | nil=>intro _ a b c h;simp at h
   | cons d D ih =>
     intro hn a b c ha hb;obtain ⟨d1,d2⟩:=d;simp at hn ha hb;rcases ha with ⟨rfl,rfl⟩ | ha<;>rcases hb with ⟨rfl,h5⟩ | hb
     ·rfl
     ·exact absurd hb (hn.1 b)
     ·subst h5;exact absurd ha (hn.1 a)
     ·exact ih hn.2 a b c ha hb
  exact inj D hD2 k k' _ hp hp'
 ·intro k x b hx hb;obtain ⟨h1,h2⟩:=hX k x hx;exact .inl ⟨k,x,h2,h1,hb⟩
 ·intro k x hx;obtain ⟨h1,h2⟩:=hX k x hx;exact hM.cell _ _ h2
end
end Go.Abs
end
section
set_option linter.unusedSimpArgs false
set_option linter.unusedVariables false
namespace Go.Abs
theorem zpc:∀ {D:List (Nat × Nat)},(D.map (·.1)).Nodup->∀ {a b c:Nat},(a,b)∈D->(a,c)∈D->b=c
 | d::D,hn,a,b,c,ha,hb=>by
   obtain ⟨d1,d2⟩:=d;simp at hn ha hb;rcases ha with ⟨rfl,rfl⟩ | ha<;>rcases hb with ⟨h4,h5⟩ | hb
   ·exact h5.symm
   ·exact absurd hb (hn.1 c)
   ·subst h4;exact absurd ha (hn.1 b)
   ·exact zpc hn.2 ha hb
theorem zo0:∀ {D:List (Nat × Nat)},(D.map (·.2)).Nodup->∀ {a b c:Nat},(a,c)∈D->(b,c)∈D->a=b
 | d::D,hn,a,b,c,ha,hb=>by
   obtain ⟨d1,d2⟩:=d;simp at hn ha hb;rcases ha with ⟨rfl,rfl⟩ | ha<;>rcases hb with ⟨rfl,h5⟩ | hb
   ·rfl
   ·exact absurd hb (hn.1 b)
   ·subst h5;exact absurd ha (hn.1 a)
   ·exact zo0 hn.2 ha hb
def ziA (X X':Xm) (D:List (Nat × Nat)) (j:Nat):Option Value :=
 match D.find? (fun p=>p.2 == j) with
 | some p=>match X' p.1 with
   | some y=>some y
   | none=>X j
 | none=>X j
theorem zbU {X X':Xm} {D:List (Nat × Nat)} (hn:(D.map (·.2)).Nodup) {k j:Nat} (h:(k,j)∈D):ziA X X' D j=match X' k with | some y=>some y | none=>X j:=by
 unfold ziA;cases hf:D.find? (fun p=>p.2 == j) with
 | none=>have:=List.find?_eq_none.1 hf _ h;simp at this
 | some p =>
   have h1:=List.find?_some hf;have h2:=List.mem_of_find?_eq_some hf;simp at h1;obtain ⟨a,b⟩:=p;simp at h1;subst h1;rw [zo0 hn h2 h]
theorem tW {X X':Xm} {D:List (Nat × Nat)} {j:Nat} (h:j ∉ D.map (·.2)):ziA X X' D j=X j:=by
 unfold ziA;cases hf:D.find? (fun p=>p.2 == j) with
 | none=>rfl
 | some p =>
   have h1:=List.find?_some hf;have h2:=List.mem_of_find?_eq_some hf;simp at h1;exact absurd (List.mem_map.2 ⟨p,h2,h1⟩) h
theorem zjf (os':Nat->Ob) (q:Nat->Nat) (D:List (Nat × Nat)):(zbQ os' q D).map (·.1)=D.map (·.2):=by
 unfold zbQ;rw [List.map_map];rfl
section
variable {P:Program} {C:Cx} {m:Nat->Ob} {w:World} {G:Im} {X:Xm}
theorem Mem.back (hM:Mem P C m w G X) {D:List (Nat × Nat)} {os os':Nat->Ob} (hD1:(D.map (·.1)).Nodup) (hD2:(D.map (·.2)).Nodup) (hdom:∀ k,os k≠.no->k∈D.map (·.1)) (hdom':∀ k,os' k≠.no->k∈D.map (·.1))
  (hos:∀ p∈D,os p.1≠.no->m p.2=(os p.1).ren (qOf D)/\∀ k∈(os p.1).ids,os k≠.no) (hnew:∀ p∈D,os p.1=.no->m p.2=.no/\os' p.1≠.no)
  {w':World} {G':Im} {X':Xm} {X1:Xm} (hM':Mem P ⟨w,G,fun b=>∃ k x,X (qOf D k)=some x/\os k≠.no/\(os k).has w x b,X1⟩ os' w' G' X') (hsame:∀ k y,os k≠.no->X (qOf D k)=some y->os' k≠.no->X' k=some y) :
  Gle G G'/\Xle X (ziA X X' D)/\Mem P C (app m (zbQ os' (qOf D) D)) w' G' (ziA X X' D)/\(∀ k y,X' k=some y->ziA X X' D (qOf D k)=some y):=by
 have hq:∀ p∈D,qOf D p.1=p.2:=fun p hp=>zlV hD1 (by obtain ⟨a,b⟩:=p;exact hp)
 have hle:Gle G G':=hM'.gle.2;have hX'in:∀ k y,X' k=some y->∃ j,(k,j)∈D/\os' k≠.no:=by
  intro k y hy;have h1:os' k≠.no:=fun h=>by rw [(hM'.free k).2 h] at hy;cases hy
  obtain ⟨p,hp,rfl⟩:=List.mem_map.1 (hdom' k h1);exact ⟨p.2,hp,h1⟩
 have hXle:Xle X (ziA X X' D):=by
  intro j y hy;by_cases hj:j∈D.map (·.2)
  ·obtain ⟨p,hp,rfl⟩:=List.mem_map.1 hj;rw [zbU hD2 (show (p.1,p.2)∈D from hp)];cases hx:X' p.1 with
   | none=>exact hy
   | some y' =>
     obtain ⟨j',hj',h1⟩:=hX'in _ _ hx;by_cases h2:os p.1=.no
     ·have:=(hM.free p.2).2 (hnew p hp h2).1;rw [this] at hy;cases hy
     ·have:=hsame p.1 y h2 (by rw [hq p hp];exact hy) h1;rw [hx] at this;cases this;rfl
  ·rw [tW hj];exact hy
 have hback:∀ k y,X' k=some y->ziA X X' D (qOf D k)=some y:=by
  intro k y hy;obtain ⟨j,hj,_⟩:=hX'in k y hy;rw [hq (k,j) hj,zbU hD2 hj,hy]
 have hown:∀ b,(∃ k x,X (qOf D k)=some x/\os k≠.no/\(os k).has w x b)->∃ p x,p∈D/\X p.2=some x/\(m p.2).has w x b:=by
  rintro b ⟨k,x,h1,h2,h3⟩;obtain ⟨p,hp,rfl⟩:=List.mem_map.1 (hdom k h2);refine ⟨p,x,hp,by rw [<- hq p hp];exact h1,?_⟩;rw [(hos p hp h2).1,Ob.has_ren];exact h3
 have notown:∀ j x,j ∉ D.map (·.2)->X j=some x->∀ b,(m j).has w x b->¬ ∃ k x,X (qOf D k)=some x/\os k≠.no/\(os k).has w x b:=by
  intro j x hj hx b hb ho;obtain ⟨p,y,hp,h1,h2⟩:=hown b ho;exact hj (List.mem_map.2 ⟨p,hp,(hM.apart _ _ _ _ b hx h1 hb h2).symm⟩)
 have hst:∀ j x,j ∉ D.map (·.2)->X j=some x->∀ b,(m j).has w' x b->(m j).has w x b:=fun j x hj hx b h =>
  (Ob.has_congr (fun b hb=>hM'.keeps.block b (hM.blk_lt hx hb) (notown j x hj hx b hb)) (hM.ob j x hx) b).1 h
 have hmm:∀ p∈D,app m (zbQ os' (qOf D) D) p.2=match os' p.1 with | .no=>.dead | o=>o.ren (qOf D):=fun p hp =>
  zpl _ m p.2 _ (by rw [zjf];exact hD2) (List.mem_map.2 ⟨p,hp,rfl⟩)
 have hmo:∀ j,j ∉ D.map (·.2)->app m (zbQ os' (qOf D) D) j=m j:=fun j hj=>nP _ m j (by rw [zjf];exact hj)
 -- an object of D that has a block,behind the call
 have hin:∀ p∈D,∀ x b,ziA X X' D p.2=some x->(app m (zbQ os' (qOf D) D) p.2).has w' x b->X' p.1=some x/\(os' p.1).has w' x b:=by
  intro p hp x b hx hb;rw [hmm p hp] at hb;rw [zbU hD2 (show (p.1,p.2)∈D from hp)] at hx;cases ho:os' p.1 with
  | no=>rw [ho] at hb;exact (Ob.has_dead hb).elim
  | _ =>
    have h1:os' p.1≠.no:=by rw [ho];simp
    have h2:X' p.1≠none:=fun h=>h1 ((hM'.free _).1 h)
    cases hx':X' p.1 with
    | none=>exact absurd hx' h2
    | some y =>
      rw [hx'] at hx;cases hx;rw [ho] at hb;simp only [Ob.has_ren] at hb;exact ⟨rfl,hb⟩
 refine ⟨hle,hXle,⟨hM.gle.trans hle,?_,hM'.gok,?_,?_,?_,?_,?_,?_,fun k y hk=>hXle k y (hM.old k y hk)⟩,hback⟩
 ·intro b hb hnb;rw [hM'.gold b (by have:=hM.keeps.size;simp only;omega) (fun ho=>?_)]
  ·exact hM.gold b hb hnb
  ·obtain ⟨p,x,_,h1,h2⟩:=hown b ho;rcases hM.mine _ _ _ h1 h2 with h3 | h3
   ·exact hnb h3
   ·omega
 ·refine ⟨hM'.keeps.os.trans hM.keeps.os,hM'.keeps.tape.trans hM.keeps.tape,hM'.keeps.output.trans hM.keeps.output,Nat.le_trans hM.keeps.size hM'.keeps.size,fun b hb hnb=>?_⟩;rw [hM'.keeps.block b (by have:=hM.keeps.size;simp only;omega) (fun ho=>?_)]
  ·exact hM.keeps.block b hb hnb
  ·obtain ⟨p,x,_,h1,h2⟩:=hown b ho;rcases hM.mine _ _ _ h1 h2 with h3 | h3
   ·exact hnb h3
   ·omega
 ·intro j x hx;by_cases hj:j∈D.map (·.2)
  ·obtain ⟨p,hp,rfl⟩:=List.mem_map.1 hj;rw [hmm p hp];rw [zbU hD2 (show (p.1,p.2)∈D from hp)] at hx;cases ho:os' p.1 with
   | no=>trivial
   | _ =>
     have h1:os' p.1≠.no:=by rw [ho];simp
     have h2:X' p.1≠none:=fun h=>h1 ((hM'.free _).1 h)
     cases hx':X' p.1 with
     | none=>exact absurd hx' h2
     | some y =>
       rw [hx'] at hx;cases hx;have hob:=hM'.ob _ _ hx';rw [ho] at hob;exact Ob.Ok_ren (fun k _ y hy=>hback k y hy) hob
  ·rw [hmo j hj];rw [tW hj] at hx;exact (hM.ob j x hx).mono hle hXle (fun b hb=>hM'.gold b (hM.blk_lt hx hb) (notown j x hj hx b hb)) (fun b hb=>hM'.keeps.block b (hM.blk_lt hx hb) (notown j x hj hx b hb))
 ·intro j;by_cases hj:j∈D.map (·.2)
  ·obtain ⟨p,hp,rfl⟩:=List.mem_map.1 hj;rw [hmm p hp,zbU hD2 (show (p.1,p.2)∈D from hp)];cases ho:os' p.1 with
   | no =>
     have h1:X' p.1=none:=(hM'.free _).2 ho;rw [h1];simp only;constructor
     ·intro h;by_cases h2:os p.1=.no
      ·exact absurd ho (hnew p hp h2).2
      ·have:=(hM.free p.2).1 h;rw [(hos p hp h2).1,Ob.ren_no] at this;exact absurd this h2
     ·intro h;cases h
   | _ =>
     have h1:os' p.1≠.no:=by rw [ho];simp
     have h2:X' p.1≠none:=fun h=>h1 ((hM'.free _).1 h)
     cases hx':X' p.1 with
     | none=>exact absurd hx' h2
     | some y=>simp [Ob.ren]
  ·rw [hmo j hj,tW hj];exact hM.free j
 ·intro j j' x x' b hx hx' hb hb';by_cases hj:j∈D.map (·.2)<;>by_cases hj':j'∈D.map (·.2)
  ·obtain ⟨p,hp,rfl⟩:=List.mem_map.1 hj;obtain ⟨p',hp',rfl⟩:=List.mem_map.1 hj';obtain ⟨h1,h2⟩:=hin p hp x b hx hb;obtain ⟨h3,h4⟩:=hin p' hp' x' b hx' hb';have:=hM'.apart _ _ _ _ b h1 h3 h2 h4;exact zpc hD1 (show (p.1,p.2)∈D from hp) (by rw [this];exact hp')
  ·obtain ⟨p,hp,rfl⟩:=List.mem_map.1 hj;obtain ⟨h1,h2⟩:=hin p hp x b hx hb;rw [hmo j' hj'] at hb';rw [tW hj'] at hx';replace hb':=hst j' x' hj' hx' b hb';rcases hM'.mine _ _ _ h1 h2 with h3 | h3
   ·obtain ⟨p2,y,hp2,h4,h5⟩:=hown b h3;exact absurd (List.mem_map.2 ⟨p2,hp2,hM.apart _ _ _ _ b h4 hx' h5 hb'⟩) hj'
   ·have:=hM.blk_lt hx' hb';simp only at h3;omega
  ·obtain ⟨p',hp',rfl⟩:=List.mem_map.1 hj';obtain ⟨h1,h2⟩:=hin p' hp' x' b hx' hb';rw [hmo j hj] at hb;rw [tW hj] at hx;replace hb:=hst j x hj hx b hb;rcases hM'.mine _ _ _ h1 h2 with h3 | h3
   ·obtain ⟨p2,y,hp2,h4,h5⟩:=hown b h3;exact absurd (List.mem_map.2 ⟨p2,hp2,hM.apart _ _ _ _ b h4 hx h5 hb⟩) hj
   ·have:=hM.blk_lt hx hb;simp only at h3;omega
  ·rw [hmo j hj] at hb;rw [tW hj] at hx;rw [hmo j' hj'] at hb';rw [tW hj'] at hx';exact hM.apart _ _ _ _ b hx hx' (hst j x hj hx b hb) (hst j' x' hj' hx' b hb')
 ·intro j x b hx hb;by_cases hj:j∈D.map (·.2)
  ·obtain ⟨p,hp,rfl⟩:=List.mem_map.1 hj;obtain ⟨h1,h2⟩:=hin p hp x b hx hb;rcases hM'.mine _ _ _ h1 h2 with h3 | h3
   ·obtain ⟨p2,y,hp2,h4,h5⟩:=hown b h3;exact hM.mine _ _ _ h4 h5
   ·exact .inr (by have:=hM.keeps.size;simp only at h3;omega)
  ·rw [hmo j hj] at hb;rw [tW hj] at hx;exact hM.mine _ _ _ hx (hst j x hj hx b hb)
 ·intro j x hx;by_cases hj:j∈D.map (·.2)
  ·obtain ⟨p,hp,rfl⟩:=List.mem_map.1 hj;rw [zbU hD2 (show (p.1,p.2)∈D from hp)] at hx;cases hx':X' p.1 with
   | none=>rw [hx'] at hx;exact hM.cell _ _ hx
   | some y=>rw [hx'] at hx;cases hx;exact hM'.cell _ _ hx'
  ·rw [tW hj] at hx;exact hM.cell _ _ hx
theorem zre (hM:Mem P C m w G X) {E:Operand->V} {ρ:Operand->Value} (hE:∀ x,V.Is G X (E x) (ρ x)) {o:Oper} {c:Call} {fop:Operand} {f:FuncId} {caps:List V} (ho:o.op=.call c) (hc:c.callee=.value fop) (hf:E fop=.fn f caps)
  {ks:List Nat} {D:List (Nat × Nat)} {cargs:List V} {os os':Nat->Ob} {r:V} (hAC:AC P f cargs os r os') (hD1:(D.map (·.1)).Nodup) (hD2:(D.map (·.2)).Nodup)
  (hpass:zaR (app m (fzU m ks)) (qOf D) ks os (c.args.toList.map E++caps) cargs) (hdom:∀ k,os k≠.no->k∈D.map (·.1)) (hdom':∀ k,os' k≠.no->k∈D.map (·.1))
  (hos:∀ p∈D,os p.1≠.no->app m (fzU m ks) p.2=(os p.1).ren (qOf D)/\∀ k∈(os p.1).ids,os k≠.no) (hnew:∀ p∈D,os p.1=.no->app m (fzU m ks) p.2=.no/\os' p.1≠.no) :
  ∃ args,(execOp ρ o).run P w=.ok (.enter f args) w/\Calls P f args w fun e w'=>∃ y G' X',e=.returned y/\Gle G G'/\Xle X X'/\Mem P C (app m (fzU m ks++zbQ os' (qOf D) D)) w' G' X'/\V.Is G' X' (r.ren (qOf D)) y:=by
 obtain ⟨⟨fn,hfn,hbody,hname⟩,hcall⟩:=hAC;obtain ⟨G1,hG1,hM1⟩:=hM.freezeL ks;have hfx:=hE fop;rw [hf,V.Is] at hfx;obtain ⟨xs,hfv,hcaps⟩:=hfx;have hargs:V.IsL G X (c.args.toList.map E++caps) (c.args.toList.map ρ++xs.toList):=by
  refine V.IsL.of_get (by simp [<- hcaps.length]) fun j v hv=>?_
  rw [List.getElem?_append] at hv ⊢;simp only [List.length_map] at hv ⊢;split at hv
  ·rename_i hj;rw [if_pos hj];rw [List.getElem?_map] at hv ⊢;cases hq:c.args.toList[j]? with
   | none=>rw [hq] at hv;simp at hv
   | some z=>rw [hq] at hv;simp at hv;subst hv;exact ⟨ρ z,rfl,hE z⟩
  ·rename_i hj;rw [if_neg hj];exact hcaps.get _ v hv
 refine ⟨(c.args.toList.map ρ++xs.toList).toArray,?_,?_⟩
 ·obtain ⟨cal,args,tys⟩:=c;simp only at hc;subst hc;have hb:fn.body.isNone=false:=by cases hh:fn.body<;>simp [hh] at hbody ⊢
  simp only [execOp,ho,Sem.run_bind,resolve,hfv,Deferred.ofValue,Sem.run_pure,Result.andThen_ok,invoke,callFunc,run_program,hfn,hname,hb];simp
 ·have hhand:=hM1.hand hD1 hD2 hdom hos;have hcargs:=zaR.is hM1 (fun k hk=>oT ks m k (.inr hk)) (q:=qOf D) (os:=os) (Xc:=fun k=>match os k with | .no=>none | _=>X (qOf D k)) (fun k hk y hy=>by cases ho:os k<;>simp_all) hpass (V.IsL.mono hG1 (Xle.refl X) _ _ hargs);refine (hcall w G1 _ _ _ hhand hcargs).mono ?_;rintro e w' ⟨y,G',X',he,hM',hr⟩;obtain ⟨h1,h2,h3,h4⟩:=hM1.back hD1 hD2 hdom hdom' hos hnew hM' (fun k y hk hy hk'=>hM'.old k y (by cases ho:os k<;>simp_all));exact ⟨y,G',_,he,hG1.trans h1,h2,by rw [mK];exact h3,V.Is.ren r y (fun k _ z hz=>h4 k z hz) hr⟩
end
end Go.Abs
end
section
set_option linter.unusedSimpArgs false
set_option linter.unusedVariables false
namespace Go.Abs
structure St where
 s:Nat->V
 m:Nat->Ob
structure Ev where
 v:V
 u:List (Nat × Ob)
 fp:List Nat
def St.put (st:St) (dst:Option Tmp) (v:V) (u:List (Nat × Ob)):St :=
 ⟨match dst with | some d=>upd st.s d v | none=>st.s,app st.m u⟩
def Rel (P:Program) (C:Cx) (n:Nat) (st:St) (a:Act) (w:World):Prop :=
 ∃ G X,Mem P C st.m w G X/\a.defers=[]/\a.tmps.size=n/\∀ t,t < n->V.Is G X (st.s t) (a.eval (.tmp t))
def aL (n:Nat) (ops:Array Oper) (o:Oper) (st:St):Option Bool :=
 match o.guard with
 | none=>some true
 | some (j,want)=>match (ops[j]?).bind (·.dst) with
   | some d=>match ev n st.s (.tmp d) with
     | .t (.sc (.bool b))=>some (b == want)
     | .tp _=>some false
     | _=>none
   | none=>none
def jT (o:Oper):Nat:=o.dst.getD 0
def zrm (P:Program) (n:Nat) (o:Oper) (st:St) (e:Ev):Prop :=
 ∃ (c:Call) (fop:Operand) (f:FuncId) (caps:List V) (ks:List Nat) (D:List (Nat × Nat)) (cargs:List V) (os os':Nat->Ob) (r:V),
   o.op=.call c/\c.callee=.value fop/\ev n st.s fop=.fn f caps/\AC P f cargs os r os'/\(D.map (·.1)).Nodup/\(D.map (·.2)).Nodup /\
   zaR (app st.m (fzU st.m ks)) (qOf D) ks os (c.args.toList.map (ev n st.s)++caps) cargs/\(∀ k,os k≠.no->k∈D.map (·.1))/\(∀ k,os' k≠.no->k∈D.map (·.1)) /\
   (∀ p∈D,os p.1≠.no->app st.m (fzU st.m ks) p.2=(os p.1).ren (qOf D)/\∀ k∈(os p.1).ids,os k≠.no)/\(∀ p∈D,os p.1=.no->app st.m (fzU st.m ks) p.2=.no/\os' p.1≠.no) /\
   e=⟨r.ren (qOf D),fzU st.m ks++zbQ os' (qOf D) D,jI 0 (ev n st.s) o.op++ks++D.map (·.2)⟩
def VLe (v v':V):Prop:=∀ G X x,V.Is G X v x->V.Is G X v' x
theorem VLe.refl (v:V):VLe v v:=fun _ _ _ h=>h
def zpp (P:Program) (n:Nat) (o:Oper) (st:St) (e:Ev):Prop :=
 ∀ (s':Nat->V) (m':Nat->Ob),(∀ x∈o.op.operands.toList,ev n s' x=ev n st.s x)->(∀ k∈e.fp,m' k=st.m k)->∀ (C:Cx) (G:Im) (X:Xm) (w:World) (ρ:Operand->Value),Mem P C m' w G X->(∀ x,V.Is G X (ev n s' x) (ρ x))->Did P C m' G X ((execOp ρ o).run P w) e.v e.u
def zrt (P:Program) (n:Nat) (ops:Array Oper) (o:Oper) (st:St) (e:Ev):Prop :=
 (aL n ops o st=some false/\e=⟨.tp [],[],[]⟩) ∨
 (aL n ops o st=some true/\(∃ v0,lB P (jT o) (ev n st.s) st.m o.op=some (v0,e.u)/\VLe v0 e.v)/\e.fp=jI (jT o) (ev n st.s) o.op) ∨
 (aL n ops o st=some true/\zrm P n o st e) ∨
 (aL n ops o st=some true/\zpp P n o st e)
section
variable {P:Program} {C:Cx} {n:Nat} {ops:Array Oper} {Q:Exit->Act->World->Prop}
theorem Rel.evs {st:St} {a:Act} {G:Im} {X:Xm} (h:∀ t,t < n->V.Is G X (st.s t) (a.eval (.tmp t))) (x:Operand):V.Is G X (ev n st.s x) (a.eval x):=ev_is h x
theorem zra (a:Act) (d:Nat) (y:Value) (t:Nat):(a.put (some d) y).eval (.tmp t)=if t=d/\d < a.tmps.size then y else a.eval (.tmp t):=by
 simp only [Act.put,Act.eval,Array.getD_eq_getD_getElem?,Array.getElem?_setIfInBounds];by_cases h:d=t
 ·subst h;by_cases h2:d < a.tmps.size
  ·simp [h2]
  ·simp [h2]
 ·rw [if_neg h,if_neg (by rintro ⟨h3,_⟩;exact h h3.symm)]
theorem Rel.put {st:St} {a:Act} {w':World} {G G':Im} {X X':Xm} {v:V} {u:List (Nat × Ob)} {y:Value} (hM:Mem P C (app st.m u) w' G' X') (hd:a.defers=[]) (hs:a.tmps.size=n) (ht:∀ t,t < n->V.Is G X (st.s t) (a.eval (.tmp t)))
  (hG:Gle G G') (hX:Xle X X') (hv:V.Is G' X' v y) (dst:Option Tmp):Rel P C n (st.put dst v u) (a.put dst y) w':=by
 refine ⟨G',X',hM,?_,?_,?_⟩
 ·cases dst<;>exact hd
 ·cases dst<;>simp [Act.put,hs]
 ·intro t htn;cases dst with
  | none=>exact V.Is.mono hG hX _ _ (ht t htn)
  | some d =>
    rw [zra];simp only [St.put];by_cases h:t=d
    ·subst h;rw [aE,if_pos ⟨rfl,by omega⟩];exact hv
    ·rw [aJ _ _ _ h,if_neg (by rintro ⟨h2,_⟩;exact h h2)];exact V.Is.mono hG hX _ _ (ht t htn)
theorem yB {st:St} {a:Act} {o:Oper} {b:Bool} {G:Im} {X:Xm} (h:aL n ops o st=some b) (hs:a.tmps.size=n) (ht:∀ t,t < n->V.Is G X (st.s t) (a.eval (.tmp t))):Region.wanted o (yielded ops a.tmps)=b:=by
 unfold aL at h;unfold Region.wanted;cases hg:o.guard with
 | none=>rw [hg] at h;simp at h;simp [h]
 | some p =>
   obtain ⟨j,want⟩:=p;rw [hg] at h;simp only at h ⊢;split at h
   ·rename_i d hd;split at h
    ·rename_i c hc;simp at h;subst h;simp only [ev] at hc;by_cases hdn:d < n
     ·rw [if_pos hdn] at hc;have hi:=ht d hdn;rw [hc,V.Is,T.Is] at hi;have:yielded ops a.tmps j=some c:=by
       unfold yielded;rw [hd];simp only [Option.bind_some];have hlt:d < a.tmps.size:=by rw [hs];exact hdn
       simp only [Act.eval,Array.getD_eq_getD_getElem?] at hi;rw [Array.getElem?_eq_getElem hlt] at hi ⊢;simp at hi;rw [hi];rfl
      rw [this];cases c<;>cases want<;>rfl
     ·rw [if_neg hdn] at hc;cases hc
    ·rename_i vs hc;simp at h;subst h;simp only [ev] at hc;by_cases hdn:d < n
     ·rw [if_pos hdn] at hc;have hi:=ht d hdn;rw [hc,V.Is] at hi;obtain ⟨xs,hi,_⟩:=hi;have:yielded ops a.tmps j=none:=by
       unfold yielded;rw [hd];simp only [Option.bind_some];have hlt:d < a.tmps.size:=by rw [hs];exact hdn
       simp only [Act.eval,Array.getD_eq_getD_getElem?] at hi;rw [Array.getElem?_eq_getElem hlt] at hi ⊢;simp at hi;rw [hi]
      rw [this];rfl
     ·rw [if_neg hdn] at hc;cases hc
    ·cases h
   ·cases h
theorem zjp {i:Nat} {o:Oper} (hi:ops[i]?=some o) {st:St} {e:Ev} (hd:zrt P n ops o st e) {a:Act} {w:World} (hR:Rel P C n st a w) {K:Act->World->Prop} (hK:∀ a' w',Rel P C n (st.put o.dst e.v e.u) a' w'->K a' w'):wpOp P ops Q i K a w:=by
 obtain ⟨G,X,hM,hdf,hs,ht⟩:=hR;unfold wpOp;rw [hi];simp only;rcases hd with ⟨hg,rfl⟩ | ⟨hg,⟨v0,he,hle⟩,_⟩ | ⟨hg,hc⟩ | ⟨hg,hc⟩
 ·rw [yB hg hs ht];simp only [Bool.false_eq_true,if_false];exact hK _ _ (Rel.put hM hdf hs ht (Gle.refl G) (Xle.refl X) (by rw [V.Is];exact ⟨#[],rfl,by rw [V.IsL]⟩) o.dst)
 ·rw [yB hg hs ht];simp only [if_true];left;obtain ⟨nx,y,w',G',X',hr,hn,hG,hX,hM',hv⟩:=zol hM (Rel.evs ht) he;replace hv:=hle _ _ _ hv;unfold Oper.wp;rw [hr];rcases hn with rfl | ⟨rfl,rfl⟩
  ·exact hK _ _ (Rel.put hM' hdf hs ht hG hX hv o.dst)
  ·exact hK _ _ (Rel.put hM' hdf hs ht hG hX hv o.dst)
 ·rw [yB hg hs ht];simp only [if_true];left;obtain ⟨c,fop,f,caps,ks,D,cargs,os,os',r,ho,hcal,hf,hAC,hD1,hD2,hp,hdom,hdom',hos,hnew,rfl⟩:=hc;obtain ⟨args,hrun,hcalls⟩:=zre hM (Rel.evs ht) ho hcal hf hAC hD1 hD2 hp hdom hdom' hos hnew;unfold Oper.wp;rw [hrun];refine hcalls.mono ?_;rintro e' w' ⟨y,G',X',rfl,hG,hX,hM',hv⟩;exact hK _ _ (Rel.put hM' hdf hs ht hG hX hv o.dst)
 ·rw [yB hg hs ht];simp only [if_true];left;obtain ⟨nx,y,w',G',X',hr,hn,hG,hX,hM',hv⟩:=hc st.s st.m (fun _ _=>rfl) (fun _ _=>rfl) C G X w _ hM (Rel.evs ht);unfold Oper.wp;rw [hr];rcases hn with rfl | ⟨rfl,rfl⟩
  ·exact hK _ _ (Rel.put hM' hdf hs ht hG hX hv o.dst)
  ·exact hK _ _ (Rel.put hM' hdf hs ht hG hX hv o.dst)
inductive zfJ (P:Program) (n:Nat) (ops:Array Oper):St->List (Nat × Oper × Ev)->St->Prop
 | nil (st:St):zfJ P n ops st [] st
 | cons {st st':St} {i:Nat} {o:Oper} {e:Ev} {l:List (Nat × Oper × Ev)} (hi:ops[i]?=some o) (hd:zrt P n ops o st e) (h:zfJ P n ops (st.put o.dst e.v e.u) l st'):zfJ P n ops st ((i,o,e)::l) st'
theorem zmq {l:List (Nat × Oper × Ev)} {st st':St} (h:zfJ P n ops st l st') (hK:∀ a w,Rel P C n st' a w->Q .normal a w):∀ {a:Act} {w:World},Rel P C n st a w->wpOps P ops Q (l.map (·.1)) a w:=by
 induction h with
 | nil st=>intro a w hR;exact hK a w hR
 | cons hi hd h ih =>
   intro a w hR;rw [List.map_cons,wpOps_cons];exact zjp hi hd hR (fun a' w' hR'=>ih hK hR')
theorem zmb {id:Nat} {l:List (Nat × Oper × Ev)} {st st':St} (h:zfJ P n ops st l st') (hl:l.map (·.1)=List.range ops.size) (hK:∀ a w,Rel P C n st' a w->Q .normal a w) {a:Act} {w:World} (hR:Rel P C n st a w):(Code.region id ops false).wp P Q a w :=
 wp_region (by rw [<- hl];exact zmq h hK hR)
def zsP (e:Ev):List Nat:=e.u.map (·.1)
def zlK (ops:Array Oper) (x y:Nat × Oper × Ev):Bool :=
 x.2.1.apart ops y.2.1&&(zsP x.2.2).all (fun k=>!y.2.2.fp.contains k&&!(zsP y.2.2).contains k)&&(zsP y.2.2).all (fun k=>!x.2.2.fp.contains k)
theorem zn3 {x y:Nat × Oper × Ev} (h:zlK ops x y=true):x.2.1.apart ops y.2.1=true/\(∀ k∈zsP x.2.2,k ∉ y.2.2.fp/\k ∉ zsP y.2.2)/\(∀ k∈zsP y.2.2,k ∉ x.2.2.fp):=by
 simp only [zlK,Bool.and_eq_true,List.all_eq_true,Bool.not_eq_true',List.contains_eq_mem,decide_eq_false_iff_not] at h;exact ⟨h.1.1,h.1.2,h.2⟩
theorem znU {o:Oper} {t:Nat} (h:Operand.tmp t∈o.op.operands.toList):t∈o.looksAt ops:=by
 unfold Oper.looksAt;rw [List.mem_append];exact .inl (List.mem_filterMap.2 ⟨_,h,rfl⟩)
theorem zeE {o:Oper} {s s':Nat->V} (h:∀ t∈o.looksAt ops,s' t=s t) (x:Operand) (hx:x∈o.op.operands.toList):ev n s' x=ev n s x:=by
 cases x<;>try rfl
 rename_i t;simp only [ev,h t (znU hx)]
theorem zlw {o:Oper} {st st':St} (h:∀ t∈o.looksAt ops,st'.s t=st.s t):aL n ops o st'=aL n ops o st:=by
 unfold aL;cases hg:o.guard with
 | none=>rfl
 | some p =>
   obtain ⟨j,want⟩:=p;simp only;cases hd:(ops[j]?).bind (·.dst) with
   | none=>rfl
   | some d =>
     simp only [ev];rw [h d (by unfold Oper.looksAt;rw [hg];simp [hd])]
theorem zjq {o:Oper} {st st':St} {e:Ev} (hs:∀ t∈o.looksAt ops,st'.s t=st.s t) (hm:∀ k∈e.fp,st'.m k=st.m k) (h:zrt P n ops o st e):zrt P n ops o st' e:=by
 unfold zrt;rw [zlw hs];rcases h with h | ⟨hg,h1,h2⟩ | ⟨hg,h⟩ | ⟨hg,h⟩
 ·exact .inl h
 ·refine .inr (.inl ⟨hg,?_,?_⟩)
  ·rw [zom (fun x hx=>zeE hs x hx) (fun k hk=>hm k (by rw [h2];exact hk))];exact h1
  ·rw [h2];unfold jI;congr 1;exact (zh1 fun x hx=>zeE hs x hx).symm
 rotate_left
 ·refine .inr (.inr (.inr ⟨hg,?_⟩));exact fun s2 m2 h1 h2=>h s2 m2 (fun x hx=>(h1 x hx).trans (zeE hs x hx)) (fun k hk=>(h2 k hk).trans (hm k hk))
 ·refine .inr (.inr (.inl ⟨hg,?_⟩));obtain ⟨c,fop,f,caps,ks,D,cargs,os,os',r,ho,hcal,hf,hAC,hD1,hD2,hp,hdom,hdom',hos,hnew,rfl⟩:=h;simp only [List.mem_append] at hm;have hopn:fop∈o.op.operands.toList:=by rw [ho];simp [Op.operands,Call.operands,hcal]
  have hargs:∀ x∈c.args.toList,x∈o.op.operands.toList:=fun x hx=>by rw [ho];simp [Op.operands,Call.operands,hcal];exact .inr (by simpa using hx)
  have e0:fzU st'.m ks=fzU st.m ks:=vQ fun k hk=>hm k (.inl (.inr hk))
  have e1:c.args.toList.map (ev n st'.s)=c.args.toList.map (ev n st.s):=List.map_congr_left fun x hx=>zeE hs x (hargs x hx)
  have hids:∀ v∈c.args.toList.map (ev n st.s)++caps,∀ k∈v.ids,st'.m k=st.m k:=by
   intro v hv k hk;refine hm k (.inl (.inl ?_));rw [List.mem_append] at hv;rcases hv with hv | hv
   ·obtain ⟨x,hx,rfl⟩:=List.mem_map.1 hv;exact zoQ (by rw [ho];rfl) (hargs x hx) hk
   ·refine zoQ (by rw [ho];rfl) hopn ?_;rw [hf,V.ids];exact V.mem_idsL hv hk
  have hpass:∀ (vs cs:List V),(∀ v∈vs,∀ k∈v.ids,st'.m k=st.m k)->zaR (app st.m (fzU st.m ks)) (qOf D) ks os vs cs->zaR (app st'.m (fzU st.m ks)) (qOf D) ks os vs cs:=by
   intro vs;induction vs with
   | nil=>intro cs _ h;cases cs<;>exact h
   | cons v vs ih =>
     intro cs hv h;cases cs with
     | nil=>exact h
     | cons c cs =>
       refine ⟨?_,ih cs (fun v hv'=>hv v (by simp [hv'])) h.2⟩;rcases h.1 with h1 | ⟨t,h1,h2,h3⟩ | ⟨ws,ts,h0,h1,h2,h3⟩
       ·exact .inl h1
       ·exact .inr (.inl ⟨t,by rw [zbl fun k hk=>zc _ (hv v (by simp) k hk)];exact h1,h2,h3⟩)
       ·refine .inr (.inr ⟨ws,ts,h0,?_,h2,h3⟩);rw [zbW fun k hk=>zc _ (hv v (by simp) k (by rw [h0,V.ids];exact hk))];exact h1
  refine ⟨c,fop,f,caps,ks,D,cargs,os,os',r,ho,hcal,by rw [zeE hs fop hopn];exact hf,hAC,hD1,hD2,by rw [e0,e1];exact hpass _ _ hids hp,hdom,hdom',?_,?_,?_⟩
  ·intro p hpD h;rw [e0,zc _ (hm p.2 (.inr (List.mem_map.2 ⟨p,hpD,rfl⟩)))];exact hos p hpD h
  ·intro p hpD h;rw [e0,zc _ (hm p.2 (.inr (List.mem_map.2 ⟨p,hpD,rfl⟩)))];exact hnew p hpD h
  ·rw [e0];congr 2;unfold jI;congr 2;exact (zh1 fun x hx=>zeE hs x hx).symm
theorem zrl:∀ (a b:List (Nat × Ob)) (m:Nat->Ob),(∀ k∈a.map (·.1),k ∉ b.map (·.1))->app (app m a) b=app (app m b) a:=by
 intro a b m h;funext k;by_cases hb:k∈b.map (·.1)
 ·have ha:k ∉ a.map (·.1):=fun ha=>h k ha hb
  rw [nP a _ k ha];exact app_congr' b k hb _ _
 ·rw [nP b _ k hb];by_cases ha:k∈a.map (·.1)
  ·exact app_congr' a k ha _ _
  ·rw [nP a _ k ha,nP a _ k ha,nP b _ k hb]
where
 app_congr':∀ (u:List (Nat × Ob)) (k:Nat),k∈u.map (·.1)->∀ (m m':Nat->Ob),app m u k=app m' u k
  | (j,o)::u,k,h,m,m'=>by
    rw [app,app];by_cases hk:k∈u.map (·.1)
    ·exact app_congr' u k hk _ _
    ·rw [nP u _ k hk,nP u _ k hk];simp at h hk;rcases h with rfl | ⟨x,hx⟩
     ·rw [aE,aE]
     ·exact absurd hx (hk x)
theorem zoj {x y:Nat × Oper × Ev} {l:List (Nat × Oper × Ev)} {st st':St} (h:zfJ P n ops st (x::y::l) st') (hi:zlK ops x y=true):zfJ P n ops st (y::x::l) st':=by
 obtain ⟨i,oi,ei⟩:=x;obtain ⟨j,oj,ej⟩:=y;obtain ⟨hap,h1,h2⟩:=zn3 hi;simp only at hap h1 h2;obtain ⟨a1,a2,a3⟩:=Oper.apart_spec hap;cases h with
 | cons hi1 hd1 h =>
   cases h with
   | cons hj1 hd2 h =>
     have e1:∀ (o1 o2:Oper) (st:St) (v:V) (u:List (Nat × Ob)),(∀ d,o1.dst=some d->d ∉ o2.looksAt ops)->∀ t∈o2.looksAt ops,(st.put o1.dst v u).s t=st.s t:=by
      intro o1 o2 st v u hh t ht;cases hd:o1.dst with
      | none=>rfl
      | some d=>simp only [St.put];exact aJ _ _ _ (by rintro rfl;exact hh _ hd ht)
     have d2:zrt P n ops oj st ej:=zjq (fun t ht=>(e1 oi oj st ei.v ei.u a1 t ht).symm) (fun k hk=>by
      simp only [St.put];exact (nP _ _ _ (fun hc=>(h1 k hc).1 hk)).symm) hd2
     have d1:zrt P n ops oi (st.put oj.dst ej.v ej.u) ei:=zjq (fun t ht=>e1 oj oi st ej.v ej.u a3 t ht) (fun k hk=>by
      simp only [St.put];exact nP _ _ _ (fun hc=>h2 k hc hk)) hd1
     refine .cons hj1 d2 (.cons hi1 d1 ?_);have e2:(st.put oj.dst ej.v ej.u).put oi.dst ei.v ei.u=(st.put oi.dst ei.v ei.u).put oj.dst ej.v ej.u:=by
      unfold St.put;congr 1
      ·cases hd:oi.dst with
       | none=>rfl
       | some d =>
         cases hd':oj.dst with
         | none=>rfl
         | some d' =>
           funext t;have:d'≠d:=fun e=>a2 d hd (by rw [hd',e])
           simp only [upd];by_cases t1:t=d<;>by_cases t2:t=d'<;>simp [t1,t2,this,Ne.symm this]<;>omega
      ·exact (zrl ei.u ej.u st.m (fun k hk=>(h1 k hk).2)).symm
     rw [e2];exact h
theorem zh3 {x:Nat × Oper × Ev} {l2:List (Nat × Oper × Ev)} {st':St}:∀ {l1:List (Nat × Oper × Ev)} {st:St},zfJ P n ops st (l1++x::l2) st'->(∀ y∈l1,zlK ops y x=true)->zfJ P n ops st (x::(l1++l2)) st'
 | [],st,h,_=>h
 | y::l1,st,h,hy=>by
   obtain ⟨i,o,e⟩:=y;cases h with
   | cons hi hd h =>
     exact zoj (.cons hi hd (zh3 h fun z hz=>hy z (by simp [hz]))) (hy _ (by simp))
end
end Go.Abs
end
section
set_option linter.unusedSimpArgs false
set_option linter.unusedVariables false
namespace Go.Abs
inductive ziC (ops:Array Oper):Nat->Nat->Prop
 | edge {i j:Nat} {o:Oper} {e:Edge} (ho:ops[j]?=some o) (he:e∈o.after) (hb:Region.binds .any e=true) (hi:e.on=i):ziC ops i j
 | trans {i j:Nat} {o:Oper} {e:Edge} (ho:ops[j]?=some o) (he:e∈o.after) (hb:Region.binds .any e=true) (hr:ziC ops i e.on):ziC ops i j
def zhO (acc:Array Nat) (o:Oper):Nat:=o.after.foldl (fun s e=>if Region.binds .any e then s ||| 2 ^ e.on ||| acc.getD e.on 0 else s) 0
theorem ziV {ops:Array Oper} {acc:Array Nat} (hacc:∀ j i,(acc.getD j 0).testBit i=true->ziC ops i j) {j:Nat} {o:Oper} (ho:ops[j]?=some o) {i:Nat} (h:(zhO acc o).testBit i=true):ziC ops i j:=by
 unfold zhO at h;rw [<- Array.foldl_toList] at h;have key:∀ (l:List Edge) (s:Nat),(∀ e∈l,e∈o.after)->(l.foldl (fun s e=>if Region.binds .any e then s ||| 2 ^ e.on ||| acc.getD e.on 0 else s) s).testBit i=true->s.testBit i=true∨ziC ops i j:=by
  intro l;induction l with
  | nil=>intro s _ h;exact .inl h
  | cons e l ih =>
    intro s hl h;rw [List.foldl_cons] at h;rcases ih _ (fun e he=>hl e (by simp [he])) h with h1 | h1
    ·split at h1
     ·rename_i hb;simp only [Nat.testBit_or,Bool.or_eq_true,Nat.testBit_two_pow,decide_eq_true_eq] at h1;rcases h1 with (h1 | h1) | h1
      ·exact .inl h1
      ·exact .inr (.edge ho (hl e (by simp)) hb h1)
      ·exact .inr (.trans ho (hl e (by simp)) hb (hacc _ _ h1))
     ·exact .inl h1
    ·exact .inr h1
 rcases key o.after.toList 0 (fun e he=>by simpa using he) h with h1 | h1
 ·simp at h1
 ·exact h1
theorem zmr (ops:Array Oper) {i j:Nat} (h:((Region.before ops).getD j 0).testBit i=true):ziC ops i j:=by
 unfold Region.before at h;rw [<- Array.foldl_toList] at h;have key:∀ (l:List Oper) (acc:Array Nat),(∀ q o,l[q]?=some o->ops[acc.size+q]?=some o)->(∀ j i,(acc.getD j 0).testBit i=true->ziC ops i j) ->
   ∀ j i,((l.foldl (fun acc o=>acc.push (o.after.foldl (fun s e=>if Region.binds .any e then s ||| 2 ^ e.on ||| acc.getD e.on 0 else s) 0)) acc).getD j 0).testBit i=true->ziC ops i j:=by
  intro l;induction l with
  | nil=>intro acc _ hacc j i h;exact hacc j i h
  | cons o l ih =>
    intro acc hl hacc j i h;rw [List.foldl_cons] at h;refine ih (acc.push (zhO acc o)) (fun q o' hq=>?_) (fun j i h=>?_) j i h
    ·rw [Array.size_push,Nat.add_assoc,Nat.add_comm 1 q];exact hl (q+1) o' (by simpa using hq)
    ·rw [Array.getD_eq_getD_getElem?,Array.getElem?_push] at h;split at h
     ·rename_i hj;have:=hl 0 o rfl;rw [Nat.add_zero] at this;rw [hj];exact ziV hacc this (by simpa using h)
     ·exact hacc j i (by rw [Array.getD_eq_getD_getElem?];exact h)
 exact key ops.toList #[] (fun q o hq=>by simpa using hq) (fun j i h=>by simp at h) j i h
def zdJ (ops:Array Oper):Bool:=ops.toList.zipIdx.all fun (o,i)=>o.after.all fun e=>!Region.binds .any e||decide (e.on < i)
theorem zki {ops:Array Oper} (h:zdJ ops=true) {i:Nat} {o:Oper} (ho:ops[i]?=some o) {e:Edge} (he:e∈o.after) (hb:Region.binds .any e=true):e.on < i:=by
 unfold zdJ at h;rw [List.all_eq_true] at h;have h1:=h (o,i) (by rw [List.mem_zipIdx_iff_getElem?];simpa using ho);simp only at h1;rw [Array.all_eq_true_iff_forall_mem] at h1;have h2:=h1 e he;simpa [hb] using h2
def zfH (ops:Array Oper) (b:Array Nat):List (Nat × Oper × Ev)->Bool
 | []=>true
 | x::l=>l.all (fun y=>(b.getD y.1 0).testBit x.1||zlK ops x y)&&zfH ops b l
section
variable {P:Program} {C:Cx} {n:Nat} {ops:Array Oper} {Q:Exit->Act->World->Prop}
theorem zp6 (hback:zdJ ops=true) {st':St} (hK:∀ a w,Rel P C n st' a w->Q .normal a w) :
  ∀ (fuel:Nat) (listed:Array Bool) (l:List (Nat × Oper × Ev)) (st:St),zfJ P n ops st l st'->(∀ x∈l,x.1 < ops.size/\listed.getD x.1 true=false)->(∀ i,i < ops.size->listed.getD i true=false->i∈l.map (·.1)) ->
    listed.size=ops.size->(l.map (·.1)).Pairwise (· < ·)->zfH ops (Region.before ops) l=true->(∀ i o,listed.getD i false=true->ops[i]?=some o->∀ e∈o.after,Region.binds .any e=true->listed.getD e.on false=true)->l.length<=fuel ->
    ∀ {a:Act} {w:World},Rel P C n st a w->wpAny P .any ops Q fuel listed a w:=by
 intro fuel;induction fuel with
 | zero =>
   intro listed l st hch hl hcov hsz hsort hfree hclosed hlen a w hR;have:l=[]:=List.eq_nil_of_length_eq_zero (by omega);subst this;cases hch;refine ⟨?_,hK a w hR⟩;unfold Region.ready;rw [List.filter_eq_nil_iff];intro i hi;simp only [List.mem_range] at hi;intro hc;simp only [Bool.and_eq_true,Bool.not_eq_true'] at hc;have:=hcov i hi hc.1;simp at this
 | succ fuel ih =>
   intro listed l st hch hl hcov hsz hsort hfree hclosed hlen a w hR;refine ⟨fun hr=>?_,fun i hi=>?_⟩
   ·cases l with
    | nil=>cases hch;exact hK a w hR
    | cons x l =>
      exfalso;have hx:=hl x (by simp);have hxo:∃ o,ops[x.1]?=some o:=⟨ops[x.1]'hx.1,Array.getElem?_eq_getElem hx.1⟩
      obtain ⟨o,ho⟩:=hxo;have:x.1∈Region.ready .any ops listed:=by
       unfold Region.ready;rw [List.mem_filter];refine ⟨by simpa using hx.1,?_⟩;rw [hx.2,ho];simp only [Bool.not_false,Bool.true_and,Option.map_some,Option.getD_some];rw [Array.all_eq_true_iff_forall_mem];intro e he;cases hb:Region.binds .any e with
       | false=>rfl
       | true =>
         simp only [Bool.not_true,Bool.false_or];have hlt:=zki hback ho he hb;cases hle:listed.getD e.on true with
         | true =>
           have:e.on < listed.size:=by omega
           rw [Array.getD_eq_getD_getElem?,Array.getElem?_eq_getElem this] at hle ⊢;simpa using hle
         | false =>
           have hm:=hcov e.on (by omega) hle;rw [List.map_cons,List.pairwise_cons] at hsort;simp only [List.map_cons,List.mem_cons] at hm;rcases hm with hm | hm
           ·omega
           ·have:=hsort.1 _ hm;omega
      rw [hr] at this;simp at this
   ·unfold Region.ready at hi;rw [List.mem_filter] at hi;obtain ⟨hi1,hi2⟩:=hi;simp only [List.mem_range] at hi1;simp only [Bool.and_eq_true,Bool.not_eq_true'] at hi2;obtain ⟨hi3,hi4⟩:=hi2;have him:=hcov i hi1 hi3;obtain ⟨x,hx,rfl⟩:=List.mem_map.1 him;obtain ⟨l1,l2,rfl⟩:=List.append_of_mem hx;have hox:ops[x.1]?=some (ops[x.1]'hi1):=Array.getElem?_eq_getElem hi1;rw [hox] at hi4;simp only [Option.map_some,Option.getD_some] at hi4;rw [Array.all_eq_true_iff_forall_mem] at hi4;have hdeps:∀ e∈(ops[x.1]'hi1).after,Region.binds .any e=true->listed.getD e.on false=true:=by
     intro e he hb;have:=hi4 e he;simpa [hb] using this
    have hreach:∀ k j,ziC ops k j->(∀ o,ops[j]?=some o->∀ e∈o.after,Region.binds .any e=true->listed.getD e.on false=true)->listed.getD k false=true:=by
     intro k j hr;induction hr with
     | edge ho he hb hi=>intro h;rw [<- hi];exact h _ ho _ he hb
     | trans ho he hb hr ih=>intro h;exact ih (fun o' ho' e' he' hb'=>hclosed _ o' (h _ ho _ he hb) ho' e' he' hb')
    have hind:∀ y∈l1,zlK ops y x=true:=by
     have hfy:∀ (l1:List (Nat × Oper × Ev)),zfH ops (Region.before ops) (l1++x::l2)=true->∀ y∈l1,(((Region.before ops).getD x.1 0).testBit y.1||zlK ops y x)=true:=by
      intro l1;induction l1 with
      | nil=>intro _ y hy;simp at hy
      | cons z l1 ih =>
        intro hf y hy;simp only [List.cons_append,zfH,Bool.and_eq_true,List.all_eq_true] at hf;simp at hy;rcases hy with rfl | hy
        ·exact hf.1 x (by simp)
        ·exact ih hf.2 y hy
     intro y hy;have h1:=hfy l1 hfree y hy;rw [Bool.or_eq_true] at h1;rcases h1 with h1 | h1
     ·exfalso;have h2:=hreach _ _ (zmr ops h1) (fun o ho e he hb=>by rw [hox] at ho;cases ho;exact hdeps e he hb);have h3:=(hl y (by simp [hy])).2;have h4:y.1 < listed.size:=by rw [hsz];exact (hl y (by simp [hy])).1
      rw [Array.getD_eq_getD_getElem?,Array.getElem?_eq_getElem h4] at h2 h3;simp at h2 h3;rw [h2] at h3;cases h3
     ·exact h1
    have hch2:=zh3 hch hind;obtain ⟨xi,xo,xe⟩:=x;cases hch2 with
    | cons hi5 hd hch3 =>
      refine zjp hi5 hd hR (fun a' w' hR'=>?_);have hsort':((l1++l2).map (·.1)).Pairwise (· < ·):=by
       refine List.Pairwise.sublist ?_ hsort;exact ((List.sublist_cons_self _ l2).append_left l1).map _
      have hnotin:xi ∉ (l1++l2).map (·.1):=by
       intro hc;rw [List.map_append,List.map_cons,List.pairwise_append] at hsort;rw [List.map_append,List.mem_append] at hc;obtain ⟨_,h6,h7⟩:=hsort;rw [List.pairwise_cons] at h6;rcases hc with hc | hc
       ·have:=h7 _ hc xi (by simp);omega
       ·have:=h6.1 _ hc;omega
      refine ih (listed.setIfInBounds xi true) (l1++l2) _ hch3 ?_ ?_ (by simp [hsz]) hsort' ?_ ?_ (by simp at hlen ⊢;omega) hR'
      ·intro y hy;have hy':=hl y (by rw [List.mem_append] at hy ⊢;rcases hy with hy | hy;exact .inl hy;exact .inr (by simp [hy]));refine ⟨hy'.1,?_⟩;rw [getD_set_ne _ (fun e=>hnotin (List.mem_map.2 ⟨y,hy,e.symm⟩))];exact hy'.2
      ·intro j hj hjf;by_cases hjx:xi=j
       ·subst hjx;rw [Array.getD_eq_getD_getElem?,Array.getElem?_setIfInBounds_self_of_lt (by omega)] at hjf;simp at hjf
       ·rw [getD_set_ne _ hjx] at hjf;have:=hcov j hj hjf;simp only [List.map_append,List.map_cons,List.mem_append,List.mem_cons] at this ⊢;rcases this with h | h | h
        ·exact .inl h
        ·exact absurd h.symm hjx
        ·exact .inr h
      ·have hfs:∀ (l1:List (Nat × Oper × Ev)),zfH ops (Region.before ops) (l1++(xi,xo,xe)::l2)=true->zfH ops (Region.before ops) (l1++l2)=true:=by
        intro l1;induction l1 with
        | nil=>intro h;simp only [List.nil_append,zfH,Bool.and_eq_true] at h ⊢;exact h.2
        | cons z l1 ih =>
          intro h;simp only [List.cons_append,zfH,Bool.and_eq_true,List.all_eq_true] at h ⊢;refine ⟨fun y hy=>h.1 y ?_,ih h.2⟩;rw [List.mem_append] at hy ⊢;rcases hy with hy | hy
          ·exact .inl hy
          ·exact .inr (by simp [hy])
       exact hfs l1 hfree
      ·intro j o hj ho e he hb;by_cases hjx:xi=j
       ·subst hjx;rw [hox] at ho;cases ho;exact getD_set_true (hdeps e he hb)
       ·rw [getD_set_ne _ hjx] at hj;exact getD_set_true (hclosed j o hj ho e he hb)
theorem zlp:∀ (n:Nat),(List.range n).Pairwise (· < ·):=fun n=>List.pairwise_lt_range
theorem znM (hmix:P.follows .mixedOrders=true) {id:Nat} {l:List (Nat × Oper × Ev)} {st st':St} (h:zfJ P n ops st l st') (hl:l.map (·.1)=List.range ops.size) (hback:zdJ ops=true) (hfree:zfH ops (Region.before ops) l=true)
  (hK:∀ a w,Rel P C n st' a w->Q .normal a w) {a:Act} {w:World} (hR:Rel P C n st a w):(Code.region id ops true).wp P Q a w:=by
 refine wp_region_any hmix ?_;obtain ⟨G,X,hM,hd,hs,ht⟩:=hR;refine zp6 hback hK ops.size _ l st h ?_ ?_ (by simp) (by rw [hl];exact zlp _) hfree ?_ ?_ ⟨G,X,hM.drew _,hd,hs,ht⟩
 ·intro x hx;have:x.1∈l.map (·.1):=List.mem_map.2 ⟨x,hx,rfl⟩;rw [hl] at this;simp only [List.mem_range] at this;exact ⟨this,by rw [Array.getD_eq_getD_getElem?,Array.getElem?_replicate,if_pos this];rfl⟩
 ·intro i hi _;rw [hl];simpa using hi
 ·intro i o hi;rw [Array.getD_eq_getD_getElem?,Array.getElem?_replicate] at hi;split at hi<;>simp at hi
 ·have:l.length=(l.map (·.1)).length:=by simp
  rw [this,hl];simp
end
end Go.Abs
end
