/- A part of the proof: what the functions that the law calls answer, as pure values. -/
import Derived.Test.YtcebadpiebamdaaGreatK075984cc7243
import Derived.Test.YtcebadpiebamdaaGreatK863b9396a6d1
import Derived.Test.YtcebadpiebamdaaGreatK69da5a743e77
import Derived.Test.YtcebadpiebamdaaGreatK0c09c3f6594f
set_option linter.unusedSimpArgs false
set_option linter.unusedVariables false
section
set_option linter.unusedVariables false
set_option linter.unusedSimpArgs false
namespace Go.Abs
def anys {α:Type} (D:α→Bool):List α→Bool
 | []=>false
 | x::xs=>D x||anys D xs
theorem anys_iff {α:Type} {D:α→Bool}:∀ {l:List α},anys D l=true↔∃ x∈l,D x=true
 | []=>by simp [anys]
 | x::xs=>by rw [anys,Bool.or_eq_true,anys_iff];simp
theorem loop_any {α:Type} {xs:List α} {D:α→Bool} {L:Nat→Int→Option Bool} {E:Nat→α→Option Bool}
  (h0:∀ m k,L (m+1) k=bif decide (k < (xs.length:Int)) then (idx xs k).bind fun a=>(E m a).bind fun v=>bif v then some true else L m (k+1) else some false)
  (hE:∀ a∈xs,Tr (fun m=>E m a) (D a)):Tr (fun m=>L m 0) (anys D xs):=by
 have key:=zaj xs (fun k zs=>Tr (fun m=>L m (k:Int)) (anys D zs)) ?_ ?_ 0 (Nat.zero_le _)
 ·simpa using key
 ·exact Tr.step (fun m=>by rw [h0,zad,cond_false];rfl) Tr.val
 ·intro k x zs hk hx hd ih
  refine Tr.step (fun m=>by rw [h0,ltN hk,cond_true,zL hx,Option.bind_some,zcj]) ?_
  refine Tr.bind (hE x (List.mem_of_getElem? hx)) ?_
  rw [anys]
  cases h:D x with
  | true=>exact Tr.tt rfl Tr.val
  | false=>exact Tr.ff rfl (by simpa using ih)
def hasB (l:List Int) (n:Int):Bool:=anys (fun x=>decide (x=n)) l
theorem l2Has_tr (l:List Int) (n:Int):Tr (fun m=>zfl m l n) (hasB l n):=by
 refine Tr.eq (fun m=>by unfold zfl;rfl) ?_
 exact loop_any (xs:=l) (L:=fun m k=>zc0 m l n k) (E:=fun m a=>some (decide (a=n))) (fun m k=>by rw [zc0];rfl) (fun a _=>Tr.val)
def zhd (a b:List Int):Bool:=alls (fun x=>hasB b x) a
theorem specWithin_tr (a b:List Int):Tr (fun m=>zcl m a b) (zhd a b):=by
 refine Tr.eq (fun m=>by unfold zcl;rfl) ?_
 have:=loop_all (xs:=a) (c:=true) (D:=fun x=>hasB b x) (L:=fun m k=>zbg m a b k) (E:=fun m x=>zfl m b x) (fun m k=>by rw [zbg]) (fun x _=>l2Has_tr b x)
 rwa [Bool.and_true] at this
def bind0:Bind:=Bind.mk (⟨#[]⟩:ByteArray) [] 0
def bAt (l:List Bind) (i:Int):Bind:=l.getD i.toNat bind0
theorem bAt_idx {l:List Bind} {i:Int} (h0:0≤i) (h1:i < l.length):idx l i=some (bAt l i):=by
 obtain ⟨k,rfl⟩:=Int.eq_ofNat_of_zero_le h0
 have hk:k < l.length:=by omega
 rw [zL (List.getElem?_eq_getElem hk)]
 unfold bAt
 rw [Int.toNat_natCast,List.getD_eq_getElem?_getD,List.getElem?_eq_getElem hk];rfl
def fitB (f:Form) (b:Bind):Bool:=decide (b.name=f.name)&&zhd b.scopes f.scopes
def fitsF (f:Form):List Bind→Nat→List Int
 | [],_=>[]
 | b::bs,k=>(bif fitB f b then [(k:Int)] else [])++fitsF f bs (k+1)
def fitsB (l:List Bind) (f:Form):List Int:=fitsF f l 0
theorem fitsF_mem {f:Form}:∀ {l:List Bind} {k:Nat} {i:Int},i∈fitsF f l k→∃ j b,i=((k+j:Nat):Int)∧l[j]?=some b∧fitB f b=true
 | b::bs,k,i,h=>by
   rw [fitsF] at h
   rcases List.mem_append.1 h with h | h
   ·cases hb:fitB f b with
    | true=>rw [hb,cond_true,List.mem_singleton] at h;exact ⟨0,b,by simpa using h,rfl,hb⟩
    | false=>rw [hb,cond_false] at h;cases h
   ·obtain ⟨j,c,h1,h2,h3⟩:=fitsF_mem h
    exact ⟨j+1,c,by rw [h1];congr 1;omega,by simpa using h2,h3⟩
theorem fitsB_mem {l:List Bind} {f:Form} {i:Int} (h:i∈fitsB l f):0≤i∧i < l.length:=by
 obtain ⟨j,b,h1,h2,_⟩:=fitsF_mem h
 have:=(List.getElem?_eq_some_iff.1 h2).1
 omega
theorem l3Fitting_tr (l:List Bind) (f:Form) (hb:l.length≤2 ^ 36):Tr (fun m=>zd5 m l f) (fitsB l f):=by
 refine Tr.eq (fun m=>by unfold zd5;rfl) ?_
 have key:=zaj l (fun k zs=>∀ g:List Int,g.length≤k→Tr (fun m=>zaV m l f g (k:Int)) (g++fitsF f zs k)) ?_ ?_ 0 (Nat.zero_le _) [] (by simp)
 ·exact key
 ·intro g _
  refine Tr.step (fun m=>by rw [zaV,zad,cond_false]) ?_
  rw [fitsF,List.append_nil];exact Tr.val
 ·intro k x zs hk hx hd ih g hg
  refine Tr.step (fun m=>by rw [zaV,ltN hk,cond_true,zL hx,Option.bind_some,Option.bind_some]) ?_
  rw [fitsF]
  have j2:∀ b:Bool,fitB f x=b→Tr (fun m=>zbZ m l f g (k:Int) b) (g++((bif fitB f x then [(k:Int)] else [])++fitsF f zs (k+1))):=by
   intro b hb
   rw [hb]
   refine Tr.step (fun m=>by rw [zbZ]) ?_
   cases b with
   | true =>
     refine Tr.tt rfl (Tr.chk (decide_eq_true (by simp;omega)) ?_)
     have:=ih (g++[(k:Int)]) (by simp;omega)
     rw [List.append_assoc] at this
     exact this
   | false=>exact Tr.ff rfl (by simpa using ih g (by omega))
  unfold fitB at j2
  by_cases hn:x.name=f.name
  ·refine Tr.tt (decide_eq_true hn) (Tr.bind (specWithin_tr _ _) (j2 _ ?_))
   rw [decide_eq_true hn,Bool.true_and]
  ·refine Tr.ff (decide_eq_false hn) (j2 false ?_)
   rw [decide_eq_false hn,Bool.false_and]
def bestB (l:List Bind) (fits:List Int) (i:Int):Bool:=alls (fun j=>zhd (bAt l j).scopes (bAt l i).scopes) fits
def firstB (l:List Bind) (fits:List Int):List Int→Option Int
 | []=>none
 | i::is=>bif bestB l fits i then some i else firstB l fits is
def refB (l:List Bind) (f:Form):Int × Int :=
 match firstB l (fitsB l f) (fitsB l f) with
 | some i=>(i,1)
 | none=>(0,bif decide (0 < ((fitsB l f).length:Int)) then 2 else 0)
theorem l3Find_tr (l:List Bind) (f:Form) (hb:l.length≤2 ^ 36):Tr (fun m=>zeD m l f) (refB l f):=by
 refine Tr.eq (fun m=>by unfold zeD;rfl) (Tr.bind (l3Fitting_tr l f hb) ?_)
 unfold refB
 have hm:∀ i∈fitsB l f,0≤i∧i < (l.length:Int):=fun i hi=>fitsB_mem hi
 generalize fitsB l f=fs at hm
 have key:=zaj fs (fun k zs=>(∀ z∈zs,z∈fs)→Tr (fun m=>zce m l fs (k:Int)) (match firstB l fs zs with
  | some i=>(i,1)
  | none=>(0,bif decide (0 < (fs.length:Int)) then 2 else 0))) ?_ ?_ 0 (Nat.zero_le _) (fun z hz=>by simpa using hz)
 ·exact key
 ·intro _
  refine Tr.step (fun m=>by rw [zce,zad,cond_false]) ?_
  rw [firstB]
  cases decide (0 < (fs.length:Int)) with
  | true=>exact Tr.tt rfl Tr.val
  | false=>exact Tr.ff rfl Tr.val
 ·intro k x zs hk hx hd ih hz
  have hx1:=hm x (hz x (by simp))
  refine Tr.step (fun m=>by rw [zce,ltN hk,cond_true]) ?_
  rw [firstB]
  have j2:∀ b:Bool,bestB l fs x=b→Tr (fun m=>zc8 m l fs (k:Int) b) (match (bif bestB l fs x then some x else firstB l fs zs) with
    | some i=>(i,1)
    | none=>(0,bif decide (0 < (fs.length:Int)) then 2 else 0)):=by
   intro b hb
   rw [hb]
   refine Tr.step (fun m=>by rw [zc8,zL hx,Option.bind_some,zcj]) ?_
   cases b with
   | true=>exact Tr.tt rfl Tr.val
   | false=>exact Tr.ff rfl (ih (fun z hzz=>hz z (by simp [hzz])))
  have inner:=zaj fs (fun j ys=>∀ b:Bool,(b&&alls (fun j=>zhd (bAt l j).scopes (bAt l x).scopes) ys)=bestB l fs x→(∀ y∈ys,y∈fs)→Tr (fun m=>zcd m l fs (k:Int) b (j:Int)) (match (bif bestB l fs x then some x else firstB l fs zs) with
    | some i=>(i,1)
    | none=>(0,bif decide (0 < (fs.length:Int)) then 2 else 0))) ?_ ?_ 0 (Nat.zero_le _) true (by rw [Bool.true_and,List.drop_zero];rfl) (fun z hzz=>by simpa using hzz)
  ·exact inner
  ·intro b hb _
   rw [alls,Bool.and_true] at hb
   exact Tr.step (fun m=>by rw [zcd,zad,cond_false]) (j2 b hb.symm)
  ·intro j y ys hj hy hdy ihj b hb hys
   have hy1:=hm y (hys y (by simp))
   refine Tr.step (fun m=>by rw [zcd,ltN hj,cond_true]) ?_
   rw [alls] at hb
   cases b with
   | true =>
     refine Tr.tt rfl (Tr.eq (fun m=>by rw [zL hy,Option.bind_some,bAt_idx hy1.1 hy1.2,Option.bind_some,zL hx,Option.bind_some,bAt_idx hx1.1 hx1.2,Option.bind_some]) (Tr.bind (specWithin_tr _ _) ?_))
     refine Tr.step (fun m=>by rw [zcJ,zcj]) (ihj _ ?_ (fun z hzz=>hys z (by simp [hzz])))
     rw [Bool.true_and] at hb;exact hb
   | false =>
     refine Tr.ff rfl (Tr.step (fun m=>by rw [zcJ,zcj]) (ihj _ ?_ (fun z hzz=>hys z (by simp [hzz]))))
     rw [Bool.false_and] at hb ⊢;exact hb
theorem firstB_mem {l:List Bind} {fits:List Int}:∀ {is:List Int} {i:Int},firstB l fits is=some i→i∈is
 | z::is,i,h=>by
   rw [firstB] at h
   cases hb:bestB l fits z with
   | true=>rw [hb,cond_true] at h;cases h;simp
   | false=>rw [hb,cond_false] at h;simp [firstB_mem h]
theorem zgY (l:List Bind) (f:Form):(∃ i,refB l f=(i,1)∧0≤i∧i < (l.length:Int))∨refB l f=(0,2)∨refB l f=(0,0):=by
 unfold refB
 cases h:firstB l (fitsB l f) (fitsB l f) with
 | some i=>exact .inl ⟨i,rfl,fitsB_mem (firstB_mem h)⟩
 | none=>cases decide (0 < ((fitsB l f).length:Int)) with
   | true=>exact .inr (.inl rfl)
   | false=>exact .inr (.inr rfl)
def refS (l:List Bind) (a b:Form):Bool :=
 decide ((refB l a).2=(refB l b).2)&&(!decide ((refB l a).2=2)&&(bif decide ((refB l a).2=0) then decide (a.name=b.name) else decide ((bAt l (refB l a).1).id=(bAt l (refB l b).1).id)))
theorem l3Same_tr (l:List Bind) (a b:Form) (hb:l.length≤2 ^ 36):Tr (fun m=>zfr m l a b) (refS l a b):=by
 refine Tr.eq (fun m=>by unfold zfr;rfl) (Tr.bind (l3Find_tr l a hb) (Tr.bind (l3Find_tr l b hb) ?_))
 unfold refS
 by_cases h:(refB l a).2=(refB l b).2
 case neg =>
  rw [decide_eq_false h,Bool.false_and]
  exact Tr.tt (by simpa using h) (Tr.step (fun m=>by rw [zcI];rfl) Tr.val)
 rw [decide_eq_true h,Bool.true_and]
 refine Tr.ff (by simpa using h) (Tr.step (fun m=>by rw [zcI]) ?_)
 rcases zgY l a with ⟨i,ha,i0,i1⟩ | ha | ha
 ·rcases zgY l b with ⟨j,B2,j0,j1⟩ | B2 | B2
  ·rw [ha,B2]
   exact Tr.ff rfl (Tr.ff rfl (Tr.eq (fun m=>by rw [bAt_idx i0 i1,Option.bind_some,bAt_idx j0 j1,Option.bind_some];rfl) Tr.val))
  ·rw [ha,B2] at h;simp at h
  ·rw [ha,B2] at h;simp at h
 ·rw [ha];exact Tr.tt rfl Tr.val
 ·rw [ha];exact Tr.ff rfl (Tr.tt rfl Tr.val)
end Go.Abs
end
section
set_option linter.unusedVariables false
set_option linter.unusedSimpArgs false
namespace Go.Abs
def rowH:Nat→List (Form × Int)→List (List Hit)→List Hit
 | _,[],_=>[]
 | k,v::vs,rows=>Hit.mk v.1 (v.2+1) form0 (rows.map fun r=>r.getD k hit0)::rowH (k+1) vs rows
theorem rowH_name:∀ (vs:List (Form × Int)) (k:Nat) (rows:List (List Hit)),(rowH k vs rows).map Hit.name=vs.map (·.1)
 | [],k,rows=>rfl
 | v::vs,k,rows=>by rw [rowH,List.map_cons,List.map_cons,rowH_name vs];rfl
def allM {α β:Type} (D:α→Option β):List α→Option (List β)
 | []=>some []
 | x::xs=>match D x with
   | none=>none
   | some y=>match allM D xs with
     | none=>none
     | some ys=>some (y::ys)
theorem allM_len {α β:Type} {D:α→Option β}:∀ {l:List α} {r:List β},allM D l=some r→r.length=l.length
 | [],r,h=>by rw [allM] at h;cases h;rfl
 | x::xs,r,h=>by
   rw [allM] at h
   cases hx:D x with
   | none=>simp [hx] at h
   | some y =>
     cases hs:allM D xs with
     | none=>simp [hx,hs] at h
     | some ys=>simp [hx,hs] at h;subst h;simp [allM_len hs]
theorem allM_mem {α β:Type} {D:α→Option β}:∀ {l:List α} {r:List β},allM D l=some r→∀ y∈r,∃ x∈l,D x=some y
 | [],r,h,y,hy=>by rw [allM] at h;cases h;cases hy
 | x::xs,r,h,y,hy=>by
   rw [allM] at h
   cases hx:D x with
   | none=>simp [hx] at h
   | some z =>
     cases hs:allM D xs with
     | none=>simp [hx,hs] at h
     | some ys =>
       simp [hx,hs] at h;subst h
       rcases List.mem_cons.1 hy with rfl | hy
       ·exact ⟨x,by simp,hx⟩
       ·obtain ⟨w,hw,hD⟩:=allM_mem hs y hy
        exact ⟨w,by simp [hw],hD⟩
def oapp {α:Type}:Option (List α)→Option (List α)→Option (List α)
 | some a,some b=>some (a++b)
 | _,_=>none
mutual
noncomputable def Form.mt (bs:List Bind) (lits:List Form):Form→Form→Option (List Hit)
 | .mk k nm n sc kids,f =>
   bif decide (k=1) then
    bif decide (nm=zgd) then some []
    else bif inF lits (.mk k nm n sc kids) then (bif decide (f.kind=1)&&refS bs (.mk k nm n sc kids) f then some [] else none)
    else some [Hit.mk (.mk k nm n sc kids) 0 f []]
   else bif decide (k=2) then (bif same (.mk k nm n sc kids) f then some [] else none)
   else bif decide (f.kind≠3) then none else Form.mts bs lits kids f.kids
noncomputable def Form.mts (bs:List Bind) (lits:List Form):List Form→List Form→Option (List Hit)
 | [],fs=>bif decide (fs.length=0) then some [] else none
 | p::ps,fs =>
   bif zM p then Form.mts bs lits ps fs
   else bif zcq ps then
    bif decide (fs.length+1 < ps.length) then none
    else match allM (fun f=>Form.mt bs lits p f) (fs.take (fs.length+1-ps.length)) with
     | none=>none
     | some rows=>oapp (some (rowH 0 (p.vd lits 0) rows)) (Form.mts bs lits ps (fs.drop (fs.length+1-ps.length)))
   else match fs with
    | []=>none
    | f::fs'=>oapp (Form.mt bs lits p f) (Form.mts bs lits ps fs')
end
theorem Form.mt_eq (bs:List Bind) (lits:List Form) (p f:Form):p.mt bs lits f=bif decide (p.kind=1) then
  bif decide (p.name=zgd) then some []
  else bif inF lits p then (bif decide (f.kind=1)&&refS bs p f then some [] else none)
  else some [Hit.mk p 0 f []]
  else bif decide (p.kind=2) then (bif same p f then some [] else none)
  else bif decide (f.kind≠3) then none else Form.mts bs lits p.kids f.kids:=by
 obtain ⟨a,b,c,d,e⟩:=p;rw [Form.mt];rfl
structure PatS (p:Form):Prop where
 ok:∃ d,p.isOk d=true
 shp:p.shp=true
def KidS (x:Form):Prop:=(∃ d,x.isOk d=true)∧(zM x=true∨x.shp=true)
theorem zf5 {f:Form} {d:Nat} (h:f.isOk d=true):(f.kind≠3→f.kids=[])∧∀ x∈f.kids,x.isOk (d-1)=true:=by
 rw [Form.isOk_eq] at h
 cases hd:decide (d=0) with
 | true=>rw [hd] at h;cases h
 | false =>
 rw [hd,cond_false] at h
 by_cases h1:f.kind=1
 ·rw [decide_eq_true h1,cond_true] at h
  simp only [Bool.and_eq_true,decide_eq_true_eq] at h
  have:f.kids=[]:=List.eq_nil_of_length_eq_zero (by omega)
  exact ⟨fun _=>this,fun x hx=>by rw [this] at hx;cases hx⟩
 ·rw [decide_eq_false h1,cond_false] at h
  by_cases h2:f.kind=2
  ·rw [decide_eq_true h2,cond_true] at h
   simp only [Bool.and_eq_true,decide_eq_true_eq] at h
   have:f.kids=[]:=List.eq_nil_of_length_eq_zero (by omega)
   exact ⟨fun _=>this,fun x hx=>by rw [this] at hx;cases hx⟩
  ·rw [decide_eq_false h2,cond_false] at h
   simp only [Bool.and_eq_true,decide_eq_true_eq] at h
   obtain ⟨h3,_,_,_,h4⟩:=h
   exact ⟨fun hn=>absurd h3 hn,fun x hx=>zfG.1 h4 x hx⟩
theorem kP_mem:∀ {l:List Form} {pd:Bool},Form.kP pd l=true→∀ x∈l,zM x=true∨x.shp=true
 | y::ys,pd,h,x,hx=>by
   rw [Form.kP,Bool.and_eq_true] at h
   rcases List.mem_cons.1 hx with rfl | hx
   ·cases hd:zM x with
    | true=>exact .inl rfl
    | false=>have:=h.1;rw [hd,cond_false] at this;exact .inr this
   ·exact kP_mem h.2 x hx
theorem PatS.parts {p:Form} (h:PatS p):zM p=false∧Form.kP true p.kids=true∧cntD p.kids≤1∧(∀ x∈p.kids,KidS x)∧(p.kind≠3→p.kids=[]):=by
 obtain ⟨⟨d,hd⟩,hs⟩:=h
 rw [Form.shp_eq,Bool.and_eq_true,Bool.and_eq_true,Bool.not_eq_true',decide_eq_true_eq] at hs
 obtain ⟨k1,k2⟩:=zf5 hd
 exact ⟨hs.1,hs.2.1,hs.2.2,fun x hx=>⟨⟨_,k2 x hx⟩,kP_mem hs.2.1 x hx⟩,k1⟩
theorem KidS.pat {x:Form} (h:KidS x) (hd:zM x=false):PatS x:=⟨h.1,by
 rcases h.2 with h | h
 ·rw [hd] at h;cases h
 ·exact h⟩
theorem KidS.dots {x:Form} (h:KidS x) (hd:zM x=true) (lits:List Form):x.vs lits=[]∧zem lits x=false∧x.kids=[]:=by
 obtain ⟨⟨d,h⟩,_⟩:=h
 unfold zM at hd
 rw [Bool.and_eq_true,decide_eq_true_eq,decide_eq_true_eq] at hd
 have hk:x.kids=[]:=(zf5 h).1 (by omega)
 have hv:zem lits x=false:=by unfold zem;rw [decide_eq_true hd.1,decide_eq_true hd.2];rfl
 exact ⟨by rw [Form.vs_eq,hk,hv];rfl,hv,hk⟩
theorem oapp_some {α:Type} {a b:Option (List α)} {r:List α} (h:oapp a b=some r):∃ x y,a=some x∧b=some y∧r=x++y:=by
 cases a<;>cases b<;>simp [oapp] at h
 exact ⟨_,_,rfl,rfl,h.symm⟩
theorem Form.mts_eq (bs:List Bind) (lits:List Form) (p:Form) (ps fs:List Form):Form.mts bs lits (p::ps) fs=bif zM p then Form.mts bs lits ps fs
  else bif zcq ps then
   bif decide (fs.length+1 < ps.length) then none
   else match allM (fun f=>Form.mt bs lits p f) (fs.take (fs.length+1-ps.length)) with
    | none=>none
    | some rows=>oapp (some (rowH 0 (p.vd lits 0) rows)) (Form.mts bs lits ps (fs.drop (fs.length+1-ps.length)))
  else match fs with
   | []=>none
   | f::fs'=>oapp (Form.mt bs lits p f) (Form.mts bs lits ps fs'):=by
 cases fs<;>rw [Form.mts]
theorem mts_cons {bs:List Bind} {lits:List Form} {p:Form} {ps fs:List Form} {h:List Hit} (hm:Form.mts bs lits (p::ps) fs=some h) :
  (zM p=true∧Form.mts bs lits ps fs=some h) ∨
  (zM p=false∧zcq ps=true∧ps.length≤fs.length+1∧∃ rows h2,allM (fun f=>p.mt bs lits f) (fs.take (fs.length+1-ps.length))=some rows∧Form.mts bs lits ps (fs.drop (fs.length+1-ps.length))=some h2∧h=rowH 0 (p.vd lits 0) rows++h2) ∨
  (zM p=false∧zcq ps=false∧∃ f fs' h1 h2,fs=f::fs'∧p.mt bs lits f=some h1∧Form.mts bs lits ps fs'=some h2∧h=h1++h2):=by
 rw [Form.mts_eq] at hm
 cases hd:zM p with
 | true=>rw [hd,cond_true] at hm;exact .inl ⟨rfl,hm⟩
 | false =>
 rw [hd,cond_false] at hm
 cases hn:zcq ps with
 | true =>
   rw [hn,cond_true] at hm
   by_cases hl:fs.length+1 < ps.length
   ·rw [decide_eq_true hl] at hm;cases hm
   ·rw [decide_eq_false hl,cond_false] at hm
    cases ha:allM (fun f=>p.mt bs lits f) (fs.take (fs.length+1-ps.length)) with
    | none=>rw [ha] at hm;cases hm
    | some rows =>
      rw [ha] at hm
      obtain ⟨x,y,hx,hy,hr⟩:=oapp_some hm
      cases hx
      exact .inr (.inl ⟨rfl,rfl,by omega,rows,y,rfl,hy,hr⟩)
 | false =>
   rw [hn,cond_false] at hm
   cases fs with
   | nil=>cases hm
   | cons f fs' =>
     obtain ⟨x,y,hx,hy,hr⟩:=oapp_some hm
     exact .inr (.inr ⟨rfl,rfl,f,fs',x,y,rfl,hx,hy,hr⟩)
theorem zgI {bs:List Bind} {lits:List Form}:∀ {ps:List Form},(∀ x∈ps,KidS x)→(∀ x∈ps,zM x=false→∀ f h,x.mt bs lits f=some h→h.map Hit.name=x.vs lits)→∀ {fs:List Form} {h:List Hit},Form.mts bs lits ps fs=some h→h.map Hit.name=Form.kVs lits ps
 | [],_,_,fs,h,hm=>by
   rw [Form.mts] at hm
   cases hz:decide (fs.length=0) with
   | true=>rw [hz] at hm;cases hm;rfl
   | false=>rw [hz] at hm;cases hm
 | p::ps,hk,ih,fs,h,hm=>by
   have hk':∀ x∈ps,KidS x:=fun x hx=>hk x (by simp [hx])
   have ih':∀ x∈ps,zM x=false→∀ f h,x.mt bs lits f=some h→h.map Hit.name=x.vs lits:=fun x hx=>ih x (by simp [hx])
   rw [Form.kVs]
   rcases mts_cons hm with ⟨hd,hm2⟩ | ⟨hd,hn,hl,rows,h2,ha,hm2,rfl⟩ | ⟨hd,hn,f,fs',h1,h2,rfl,hf,hm2,rfl⟩
   ·rw [((hk p (by simp)).dots hd lits).1,List.nil_append];exact zgI hk' ih' hm2
   ·rw [List.map_append,rowH_name,Form.vd_fst,zgI hk' ih' hm2]
   ·rw [List.map_append,ih p (by simp) hd f h1 hf,zgI hk' ih' hm2]
theorem mt_names_n (bs:List Bind) (lits:List Form):∀ (n:Nat) (p:Form),p.w≤n→PatS p→∀ f h,p.mt bs lits f=some h→h.map Hit.name=p.vs lits:=by
 intro n
 induction n with
 | zero=>intro p h;have:=p.w_kids;omega
 | succ n ih =>
   intro p hp hs f h hm
   have hw:=p.w_kids
   obtain ⟨q1,q2,q3,q4,q5⟩:=hs.parts
   rw [Form.mt_eq] at hm
   rw [Form.vs_eq]
   by_cases h1:p.kind=1
   ·rw [decide_eq_true h1,cond_true] at hm
    rw [q5 (by omega),Form.kVs,List.append_nil]
    unfold zM at q1
    rw [decide_eq_true h1,Bool.true_and] at q1
    unfold zem
    rw [decide_eq_true h1,q1,Bool.not_false,Bool.true_and,Bool.true_and]
    cases hu:decide (p.name=zgd) with
    | true=>rw [hu] at hm;cases hm;rfl
    | false =>
    rw [hu,cond_false] at hm
    cases hi:inF lits p with
    | true =>
      rw [hi,cond_true] at hm
      cases hr:(decide (f.kind=1)&&refS bs p f) with
      | true=>rw [hr] at hm;cases hm;rfl
      | false=>rw [hr] at hm;cases hm
    | false=>rw [hi] at hm;cases hm;rfl
   ·rw [decide_eq_false h1,cond_false] at hm
    have hv:zem lits p=false:=by unfold zem;rw [decide_eq_false h1];rfl
    rw [hv,cond_false,List.nil_append]
    by_cases h2:p.kind=2
    ·rw [decide_eq_true h2,cond_true] at hm
     rw [q5 (by omega),Form.kVs]
     cases hr:same p f with
     | true=>rw [hr] at hm;cases hm;rfl
     | false=>rw [hr] at hm;cases hm
    ·rw [decide_eq_false h2,cond_false] at hm
     cases hr:decide (f.kind≠3) with
     | true=>rw [hr] at hm;cases hm
     | false =>
       rw [hr,cond_false] at hm
       exact zgI q4 (fun x hx hd=>ih x (by have:=Form.ws_mem hx;omega) ((q4 x hx).pat hd)) hm
theorem mt_names {bs:List Bind} {lits:List Form} {p f:Form} {h:List Hit} (hs:PatS p) (hm:p.mt bs lits f=some h):h.map Hit.name=p.vs lits:=mt_names_n bs lits _ p (Nat.le_refl _) hs f h hm
theorem mt_len {bs:List Bind} {lits:List Form} {p f:Form} {h:List Hit} (hs:PatS p) (hm:p.mt bs lits f=some h):h.length=(p.vd lits 0).length:=by
 have h1:=congrArg List.length (mt_names hs hm)
 have h2:=congrArg List.length (Form.vd_fst lits p 0)
 rw [List.length_map] at h1 h2
 omega
def vsum:List Form→Nat
 | []=>0
 | v::vs=>v.w+3+vsum vs
theorem vsum_append:∀ (a b:List Form),vsum (a++b)=vsum a+vsum b
 | [],b=>by rw [List.nil_append,vsum,Nat.zero_add]
 | v::a,b=>by rw [List.cons_append,vsum,vsum,vsum_append a b];omega
theorem vsum_vs (lits:List Form):∀ (n:Nat) (p:Form),p.w≤n→(∃ d,p.isOk d=true)→vsum (p.vs lits)≤4*p.w:=by
 intro n
 induction n with
 | zero=>intro p h;have:=p.w_kids;omega
 | succ n ih =>
   intro p hp hd
   have hw:=p.w_kids
   obtain ⟨d,hd⟩:=hd
   obtain ⟨k1,k2⟩:=zf5 hd
   rw [Form.vs_eq]
   cases hv:zem lits p with
   | true =>
     have h1:p.kind=1:=by
      unfold zem at hv
      rw [Bool.and_eq_true,decide_eq_true_eq] at hv
      exact hv.1
     rw [k1 (by omega),cond_true,Form.kVs,List.append_nil,vsum,vsum];omega
   | false =>
     rw [cond_false,List.nil_append]
     have key:∀ l:List Form,Form.ws l≤n→(∀ x∈l,∃ d,x.isOk d=true)→vsum (Form.kVs lits l)≤4*Form.ws l:=by
      intro l
      induction l with
      | nil=>intro _ _;rw [Form.kVs,vsum];omega
      | cons x xs ihl =>
        intro hl hx
        rw [Form.ws] at hl ⊢
        rw [Form.kVs,vsum_append]
        have:=ih x (by omega) (hx x (by simp))
        have:=ihl (by omega) (fun y hy=>hx y (by simp [hy]))
        omega
     have:=key p.kids (by omega) (fun x hx=>⟨_,k2 x hx⟩)
     omega
def rsum (k:Nat):List (List Hit)→Nat
 | []=>0
 | r::rs=>Hit.ws (r.drop k)+rsum k rs
theorem rowH_w:∀ (vs:List (Form × Int)) (k:Nat) (rows:List (List Hit)),(∀ r∈rows,r.length=k+vs.length)→Hit.ws (rowH k vs rows)≤vsum (vs.map (·.1))+rsum k rows
 | [],k,rows,_=>by rw [rowH,Hit.ws];omega
 | v::vs,k,rows,h=>by
   have ih:=rowH_w vs (k+1) rows (fun r hr=>by have:=h r hr;rw [List.length_cons] at this;omega)
   have key:∀ rs:List (List Hit),(∀ r∈rs,k < r.length)→Hit.ws (rs.map fun r=>r.getD k hit0)+rsum (k+1) rs=rsum k rs:=by
    intro rs
    induction rs with
    | nil=>intro _;rfl
    | cons r rs ihr =>
      intro hr
      have:=ihr (fun r hr'=>hr r (by simp [hr']))
      have hk:=hr r (by simp)
      rw [List.map_cons,Hit.ws,rsum,rsum,List.drop_eq_getElem_cons hk,Hit.ws,List.getD_eq_getElem?_getD,List.getElem?_eq_getElem hk,Option.getD_some]
      omega
   have:=key rows (fun r hr=>by have:=h r hr;rw [List.length_cons] at this;omega)
   have f0:form0.w=1:=rfl
   rw [rowH,List.map_cons,vsum,Hit.ws,Hit.w]
   omega
theorem rows_w {bs:List Bind} {lits:List Form} {p:Form} (hp:∀ f h,p.mt bs lits f=some h→Hit.ws h≤4*(p.w*f.w)):∀ {fs:List Form} {rows:List (List Hit)},allM (fun f=>p.mt bs lits f) fs=some rows→rsum 0 rows≤4*(p.w*Form.ws fs)
 | [],rows,h=>by rw [allM] at h;cases h;rw [rsum];omega
 | f::fs,rows,h=>by
   rw [allM] at h
   cases hf:p.mt bs lits f with
   | none=>simp [hf] at h
   | some r =>
     cases hs:allM (fun f=>p.mt bs lits f) fs with
     | none=>simp [hf,hs] at h
     | some rs =>
       simp [hf,hs] at h;subst h
       have h1:=hp f r hf
       have h2:=rows_w hp hs
       rw [rsum,List.drop_zero,Form.ws]
       have e:p.w*(1+f.w+Form.ws fs)=p.w+p.w*f.w+p.w*Form.ws fs:=by rw [Nat.mul_add,Nat.mul_add,Nat.mul_one]
       omega
theorem ws_take_drop (l:List Form) (n:Nat):Form.ws (l.take n)+Form.ws (l.drop n)=Form.ws l:=by
 rw [← Form.ws_append,List.take_append_drop]
theorem prod_row (P A W B:Nat):4*P+4*(P*W)+4*(A*(1+B))≤4*((1+P+A)*(1+(W+B))):=by
 have e:(1+P+A)*(1+(W+B))=1+W+B+(P+P*W+P*B)+(A+A*W+A*B):=by
  rw [Nat.add_mul,Nat.add_mul,Nat.mul_add P,Nat.mul_add A,Nat.mul_add P,Nat.mul_add A,Nat.mul_one,Nat.mul_one,Nat.one_mul];omega
 have e2:A*(1+B)=A+A*B:=by rw [Nat.mul_add,Nat.mul_one]
 omega
theorem prod_one (P A F B:Nat):4*(P*F)+4*(A*(1+B))≤4*((1+P+A)*(1+(1+F+B))):=by
 have e:(1+P+A)*(1+(1+F+B))=1+(1+F+B)+(P+(P+P*F+P*B))+(A+(A+A*F+A*B)):=by
  rw [Nat.add_mul,Nat.add_mul,Nat.one_mul,Nat.mul_add P 1,Nat.mul_add A 1,Nat.mul_add P,Nat.mul_add P,Nat.mul_add A,Nat.mul_add A,Nat.mul_one,Nat.mul_one]
 have e2:A*(1+B)=A+A*B:=by rw [Nat.mul_add,Nat.mul_one]
 omega
theorem Hit.ws_append:∀ (a b:List Hit),Hit.ws (a++b)=Hit.ws a+Hit.ws b
 | [],b=>by rw [List.nil_append,Hit.ws,Nat.zero_add]
 | x::a,b=>by rw [List.cons_append,Hit.ws,Hit.ws,Hit.ws_append a b];omega
theorem mts_w_of {bs:List Bind} {lits:List Form}:∀ {ps:List Form},(∀ x∈ps,KidS x)→(∀ x∈ps,zM x=false→∀ f h,x.mt bs lits f=some h→Hit.ws h≤4*(x.w*f.w))→∀ {fs:List Form} {h:List Hit},Form.mts bs lits ps fs=some h→Hit.ws h≤4*(Form.ws ps*(1+Form.ws fs))
 | [],_,_,fs,h,hm=>by
   rw [Form.mts] at hm
   cases hz:decide (fs.length=0) with
   | true=>rw [hz] at hm;cases hm;rw [Hit.ws];omega
   | false=>rw [hz] at hm;cases hm
 | p::ps,hk,ih,fs,h,hm=>by
   have hk':∀ x∈ps,KidS x:=fun x hx=>hk x (by simp [hx])
   have ih':∀ x∈ps,zM x=false→∀ f h,x.mt bs lits f=some h→Hit.ws h≤4*(x.w*f.w):=fun x hx=>ih x (by simp [hx])
   rw [Form.ws]
   rcases mts_cons hm with ⟨hd,hm2⟩ | ⟨hd,hn,hl,rows,h2,ha,hm2,rfl⟩ | ⟨hd,hn,f,fs',h1,h2,rfl,hf,hm2,rfl⟩
   ·refine Nat.le_trans (mts_w_of hk' ih' hm2) (Nat.mul_le_mul_left 4 (Nat.mul_le_mul_right _ (by omega)))
   ·have r1:=mts_w_of hk' ih' hm2
    have r2:=rows_w (ih p (by simp) hd) ha
    have r3:=rowH_w (p.vd lits 0) 0 rows (fun r hr=>by
     obtain ⟨x,_,hx⟩:=allM_mem ha r hr
     rw [Nat.zero_add]
     exact mt_len ((hk p (by simp)).pat hd) hx)
    rw [Form.vd_fst] at r3
    have r4:=vsum_vs lits _ p (Nat.le_refl _) (hk p (by simp)).1
    rw [Hit.ws_append,← ws_take_drop fs (fs.length+1-ps.length)]
    have:=prod_row p.w (Form.ws ps) (Form.ws (fs.take (fs.length+1-ps.length))) (Form.ws (fs.drop (fs.length+1-ps.length)))
    omega
   ·have r1:=mts_w_of hk' ih' hm2
    have r2:=ih p (by simp) hd f h1 hf
    have:=prod_one p.w (Form.ws ps) f.w (Form.ws fs')
    rw [Hit.ws_append,Form.ws]
    omega
theorem mt_w_n (bs:List Bind) (lits:List Form):∀ (n:Nat) (p:Form),p.w≤n→PatS p→∀ f h,p.mt bs lits f=some h→Hit.ws h≤4*(p.w*f.w):=by
 intro n
 induction n with
 | zero=>intro p h;have:=p.w_kids;omega
 | succ n ih =>
   intro p hp hs f h hm
   have hw:=p.w_kids
   have hfw:=f.w_kids
   obtain ⟨q1,q2,q3,q4,q5⟩:=hs.parts
   rw [Form.mt_eq] at hm
   by_cases h1:p.kind=1
   ·rw [decide_eq_true h1,cond_true] at hm
    cases hu:decide (p.name=zgd) with
    | true=>rw [hu] at hm;cases hm;rw [Hit.ws];omega
    | false =>
    rw [hu,cond_false] at hm
    cases hi:inF lits p with
    | true =>
      rw [hi,cond_true] at hm
      cases hr:(decide (f.kind=1)&&refS bs p f) with
      | true=>rw [hr] at hm;cases hm;rw [Hit.ws];omega
      | false=>rw [hr] at hm;cases hm
    | false =>
      rw [hi] at hm;cases hm
      simp only [Hit.ws,Hit.w]
      have e1:p.w≤p.w*f.w:=Nat.le_mul_of_pos_right _ (by omega)
      have e2:f.w≤p.w*f.w:=Nat.le_mul_of_pos_left _ (by omega)
      omega
   ·rw [decide_eq_false h1,cond_false] at hm
    by_cases h2:p.kind=2
    ·rw [decide_eq_true h2,cond_true] at hm
     cases hr:same p f with
     | true=>rw [hr] at hm;cases hm;rw [Hit.ws];omega
     | false=>rw [hr] at hm;cases hm
    ·rw [decide_eq_false h2,cond_false] at hm
     cases hr:decide (f.kind≠3) with
     | true=>rw [hr] at hm;cases hm
     | false =>
       rw [hr,cond_false] at hm
       have:=mts_w_of q4 (fun x hx hd=>ih x (by have:=Form.ws_mem hx;omega) ((q4 x hx).pat hd)) hm
       exact Nat.le_trans this (Nat.mul_le_mul_left 4 (Nat.mul_le_mul (by omega) (by omega)))
theorem mt_w {bs:List Bind} {lits:List Form} {p f:Form} {h:List Hit} (hs:PatS p) (hm:p.mt bs lits f=some h):Hit.ws h≤4*(p.w*f.w):=mt_w_n bs lits _ p (Nat.le_refl _) hs f h hm
end Go.Abs
end
section
set_option linter.unusedVariables false
set_option linter.unusedSimpArgs false
namespace Go.Abs
mutual
theorem Form.vd_hi (lits:List Form):∀ (f:Form) (v:Nat),∀ x∈f.vd lits v,x.2≤(v:Int)+f.w
 | .mk k nm n sc kids,v,x,hx=>by
   rw [Form.vd,List.mem_append] at hx
   rw [Form.w]
   rcases hx with hx | hx
   ·cases h:zem lits (.mk k nm n sc kids) with
    | true=>rw [h,cond_true,List.mem_singleton] at hx;subst hx;simp only;omega
    | false=>rw [h,cond_false] at hx;cases hx
   ·have:=Form.kV_hi lits kids v x hx
    omega
theorem Form.kV_hi (lits:List Form):∀ (l:List Form) (v:Nat),∀ x∈Form.kV lits v l,x.2≤(v:Int)+Form.ws l
 | [],v,x,hx=>by rw [Form.kV] at hx;cases hx
 | y::ys,v,x,hx=>by
   rw [Form.kV,List.mem_append] at hx
   rw [Form.ws]
   rcases hx with hx | hx
   ·cases h:zcq ys with
    | true=>rw [h,cond_true] at hx;have:=Form.vd_hi lits y (v+1) x hx;omega
    | false=>rw [h,cond_false] at hx;have:=Form.vd_hi lits y v x hx;omega
   ·have:=Form.kV_hi lits ys v x hx;omega
end
theorem l4Row_tr (p:Form) (lits:List Form) (rows:List (List Hit)) (hb:p.w≤2 ^ 30) (hr:rows.length≤2 ^ 30) (hl:∀ r∈rows,r.length=(p.vd lits 0).length):Tr (fun m=>zf1 m p lits rows) (rowH 0 (p.vd lits 0) rows):=by
 refine Tr.eq (fun m=>by unfold zf1;rfl) (Tr.bind (l4Vars_nil p lits (by omega)) (Tr.bind (l4Depths_nil p lits (by omega)) ?_))
 rw [← Form.vd_fst lits p 0]
 have h0:=Form.vd_nn lits p 0
 have h1:=Form.vd_hi lits p 0
 have h2:=Form.vd_len lits p 0
 generalize p.vd lits 0=vs at hl h0 h1 h2
 have key:=zaj vs (fun k zs=>∀ g:List Hit,g.length=k→Tr (fun m=>zcw m rows (vs.map (·.1)) (vs.map (·.2)) g (k:Int)) (g++rowH k zs rows)) ?_ ?_ 0 (Nat.zero_le _) [] rfl
 ·exact key
 ·intro g _
  refine Tr.step (fun m=>by rw [zcw,List.length_map,zad,cond_false]) ?_
  rw [rowH,List.append_nil];exact Tr.val
 ·intro k v zs hk hx hd ih g hg
  have hx1:(vs.map (·.1))[k]?=some v.1:=by rw [List.getElem?_map,hx];rfl
  have hx2:(vs.map (·.2))[k]?=some v.2:=by rw [List.getElem?_map,hx];rfl
  have hm:=List.mem_of_getElem? hx
  have v0:=h0 v hm
  have v1:=h1 v hm
  refine Tr.step (fun m=>by rw [zcw,List.length_map,ltN hk,cond_true,zL hx1,Option.bind_some,zL hx2,Option.bind_some]) ?_
  rw [rowH]
  have inner:=zaj rows (fun j ys=>∀ a:List Hit,a.length=j→(∀ r∈ys,r∈rows)→Tr (fun m=>zcv m rows (vs.map (·.1)) (vs.map (·.2)) g (k:Int) v.1 v.2 (j:Int) a) (g++Hit.mk v.1 (v.2+1) form0 (a++ys.map fun r=>r.getD k hit0)::rowH (k+1) zs rows)) ?_ ?_ 0 (Nat.zero_le _) [] rfl (fun r hr=>by simpa using hr)
  ·exact inner
  ·intro a ha _
   refine Tr.step (fun m=>by rw [zcv,zad,cond_false,zaM (n:=v.2+1) (by omega),zaM (n:=(k:Int)+1) (by omega),zcj]) ?_
   refine Tr.chk (decide_eq_true (by simp;omega)) ?_
   have:=ih (g++[Hit.mk v.1 (v.2+1) form0 a]) (by simp [hg])
   rw [List.append_assoc] at this
   rw [List.map_nil,List.append_nil]
   exact this
  ·intro j r ys hj hr2 hdr ihj a ha hys
   have hrl:=hl r (hys r (by simp))
   have hkr:k < r.length:=by omega
   have e:r[k]?=some (r.getD k hit0):=by rw [List.getD_eq_getElem?_getD,List.getElem?_eq_getElem hkr];rfl
   refine Tr.step (fun m=>by rw [zcv,ltN hj,cond_true,zL hr2,Option.bind_some,zL e,Option.bind_some,zcj]) ?_
   refine Tr.chk (decide_eq_true (by simp;omega)) ?_
   have:=ihj (a++[r.getD k hit0]) (by simp [ha]) (fun z hz=>hys z (by simp [hz]))
   rw [List.append_assoc] at this
   rw [List.map_cons]
   exact this
def zb9:List Form→Nat→Int→Int
 | [],_,r=>r
 | _::xs,k,r=>zb9 xs (k+1) (bif zcq xs then (k:Int) else r)
theorem zex:∀ (zs:List Form) (k:Nat) (r:Int),cntD zs=0→zcq zs=false∧zb9 zs k r=r
 | [],k,r,_=>⟨rfl,rfl⟩
 | z::zs,k,r,h=>by
   rw [cntD] at h
   have h1:zM z=false:=by
    cases hz:zM z with
    | true=>rw [hz,cond_true] at h;omega
    | false=>rfl
   obtain ⟨n1,_⟩:=zex zs k r (by omega)
   obtain ⟨_,n2⟩:=zex zs (k+1) r (by omega)
   exact ⟨h1,by rw [zb9,n1,cond_false,n2]⟩
theorem lastRow_ge:∀ (zs:List Form) (k:Nat) (r:Int),zb9 zs k r=r∨(k:Int)≤zb9 zs k r
 | [],k,r=>.inl rfl
 | z::zs,k,r=>by
   rw [zb9]
   rcases lastRow_ge zs (k+1) (bif zcq zs then (k:Int) else r) with h | h
   ·rw [h]
    cases zcq zs with
    | true=>exact .inr (Int.le_refl _)
    | false=>exact .inl rfl
   ·exact .inr (by omega)
theorem nextD_drop {l:List Form} (h:cntD l=0) (k:Nat):zcq (l.drop k)=false:=by
 cases hd:l.drop k with
 | nil=>rfl
 | cons y ys =>
   have:∀ (l:List Form) (k:Nat),cntD l=0→cntD (l.drop k)=0:=by
    intro l
    induction l with
    | nil=>intro k _;simp [cntD]
    | cons z zs ih =>
      intro k hz
      cases k with
      | zero=>exact hz
      | succ k=>rw [List.drop_succ_cons];rw [cntD] at hz;exact ih k (by omega)
   have h2:=this l k h
   rw [hd] at h2
   exact (zex (y::ys) 0 0 h2).1
theorem lastRow_iff:∀ (xs:List Form) (x:Form) (j:Nat) (r:Int),cntD xs≤1→r < (j:Int)→∀ k,k < (x::xs).length→(zb9 (x::xs) j r=((j+k:Nat):Int)↔zcq ((x::xs).drop (k+1))=true)
 | [],x,j,r,_,hr,k,hk=>by
   have:k=0:=by simpa using hk
   subst this
   rw [zb9,zb9]
   simp [zcq];omega
 | y::ys,x,j,r,hc,hr,k,hk=>by
   rw [cntD] at hc
   rw [zb9]
   cases hy:zM y with
   | true =>
     rw [hy,cond_true] at hc
     have C0:cntD ys=0:=by omega
     obtain ⟨n1,n2⟩:=zex ys (j+1+1) (j:Int) C0
     rw [show zcq (y::ys)=true from hy,cond_true,zb9,n1,cond_false,n2]
     cases k with
     | zero=>simp [zcq,hy]
     | succ k =>
       rw [List.drop_succ_cons,List.drop_succ_cons,nextD_drop C0 k]
       simp;omega
   | false =>
     rw [hy,cond_false] at hc
     rw [show zcq (y::ys)=false from hy,cond_false]
     cases k with
     | zero =>
       rw [List.drop_succ_cons,List.drop_zero,show zcq (y::ys)=false from hy]
       rcases lastRow_ge (y::ys) (j+1) r with h | h
       ·rw [h];simp;omega
       ·simp;omega
     | succ k =>
       have:=lastRow_iff ys y (j+1) r (by omega) (by omega) k (by simpa using hk)
       rw [List.drop_succ_cons,← this]
       rw [show j+1+k=j+(k+1) by omega]
theorem lastRow_neg:∀ (ps:List Form),cntD ps≤1→zM (ps.headD form0)=false→(zb9 ps 0 (-1) < 0↔cntD ps=0)
 | [],_,_=>by simp [zb9,cntD]
 | x::xs,hc,hx=>by
   rw [List.headD_cons] at hx
   rw [cntD,hx,cond_false,Nat.zero_add] at hc ⊢
   constructor
   ·intro h
    by_cases h0:cntD xs=0
    ·exact h0
    ·exfalso
     -- the dots stand somewhere
     have:∀ (l:List Form),cntD l≠0→∃ k,k < l.length∧zcq (l.drop k)=true:=by
      intro l
      induction l with
      | nil=>intro h;exact absurd rfl h
      | cons z zs ih =>
        intro h
        cases hz:zM z with
        | true=>exact ⟨0,by simp,hz⟩
        | false =>
          rw [cntD,hz,cond_false,Nat.zero_add] at h
          obtain ⟨k,k1,k2⟩:=ih h
          exact ⟨k+1,by simpa using k1,by rw [List.drop_succ_cons];exact k2⟩
     obtain ⟨k,k1,k2⟩:=this xs h0
     have:=(lastRow_iff xs x 0 (-1) hc (by omega) k (by simp;omega)).2 (by rw [List.drop_succ_cons];exact k2)
     omega
   ·intro h0
    obtain ⟨n1,n2⟩:=zex xs 1 (-1) h0
    rw [zb9,n1,cond_false,n2];omega
theorem lastRow_tr (bs:List Bind) (lits:List Form) (fs:List Form) (ps:List Form) (hl:ps.length≤2 ^ 40) {Q:List Hit × Bool→Prop} (hj:TQ (fun m=>zc7 m bs ps lits fs (zb9 ps 0 (-1))) Q):TQ (fun m=>zaZ m bs ps lits fs (-1) 0) Q:=by
 cases hp:ps with
 | nil =>
   subst hp
   exact TQ.step (fun m=>by rw [zaZ,zaM (by omega)];rfl) hj
 | cons x xs =>
   have key:∀ (zs:List Form) (k:Nat) (z:Form) (r:Int),ps.drop k=z::zs→k < ps.length→zb9 (z::zs) k r=zb9 ps 0 (-1)→TQ (fun m=>zaZ m bs ps lits fs r (k:Int)) Q:=by
    intro zs
    induction zs with
    | nil =>
      intro k z r hd hk he
      have hlen:ps.length=k+1:=by have:=congrArg List.length hd;rw [List.length_drop] at this;simp at this;omega
      refine TQ.step (fun m=>by rw [zaZ,zaM (by omega),hlen,zcj,zad,cond_false]) ?_
      rw [zb9,zb9,show zcq []=false from rfl,cond_false] at he
      rw [he];exact hj
    | cons y ys ih =>
      intro k z r hd hk he
      have hd2:ps.drop (k+1)=y::ys:=by rw [← List.drop_drop,hd];rfl
      have hlen:k+1 < ps.length:=by
       have:=congrArg List.length hd2;rw [List.length_drop] at this;simp at this;omega
      have hy:ps[k+1]?=some y:=by
       have:=congrArg (fun l=>l[0]?) hd2
       simpa using this
      refine TQ.step (fun m=>by rw [zaZ,zaM (by omega),zcj,ltN hlen,cond_true,zL hy,Option.bind_some]) (TQ.ev (zha y) ?_)
      rw [zb9] at he
      cases hdy:zM y with
      | true =>
        rw [show zcq (y::ys)=true from hdy,cond_true] at he
        exact TQ.cond (fun _=>ih (k+1) y _ hd2 hlen he) (fun h=>by cases h)
      | false =>
        rw [show zcq (y::ys)=false from hdy,cond_false] at he
        exact TQ.cond (fun h=>by cases h) (fun _=>ih (k+1) y _ hd2 hlen he)
   have:=key xs 0 x (-1) (by rw [hp];rfl) (by rw [hp];simp) (by rw [← hp])
   rw [hp] at this
   exact this
theorem mts_len {bs:List Bind} {lits:List Form}:∀ {ps fs:List Form} {h:List Hit},Form.mts bs lits ps fs=some h→(cntD ps=0→ps.length=fs.length)∧(cntD ps=1→zcq ps=true→ps.length=fs.length+1)∧(cntD ps=1→zcq ps=false→ps.length≤fs.length+2)
 | [],fs,h,hm=>by
   rw [Form.mts] at hm
   cases hz:decide (fs.length=0) with
   | true=>exact ⟨fun _=>by simpa using (of_decide_eq_true hz).symm,fun h=>by simp [cntD] at h,fun h=>by simp [cntD] at h⟩
   | false=>rw [hz] at hm;cases hm
 | p::ps,fs,h,hm=>by
   rw [cntD]
   rcases mts_cons hm with ⟨hd,hm2⟩ | ⟨hd,hn,hl,rows,h2,ha,hm2,rfl⟩ | ⟨hd,hn,f,fs',h1,h2,rfl,hf,hm2,rfl⟩
   ·obtain ⟨a,b,c⟩:=mts_len hm2
    rw [hd,cond_true]
    refine ⟨fun h=>by omega,fun h _=>?_,fun h hn=>?_⟩
    ·have:=a (by omega);rw [List.length_cons];omega
    ·have:=a (by omega);rw [List.length_cons];omega
   ·obtain ⟨a,b,c⟩:=mts_len hm2
    rw [hd,cond_false,Nat.zero_add]
    refine ⟨fun h=>?_,fun _ h=>?_,fun h _=>?_⟩
    ·rw [(zex ps 0 0 h).1] at hn;cases hn
    ·rw [show zcq (p::ps)=zM p from rfl,hd] at h;cases h
    ·rw [List.length_cons];omega
   ·obtain ⟨a,b,c⟩:=mts_len hm2
    rw [hd,cond_false,Nat.zero_add]
    refine ⟨fun h=>?_,fun _ h=>?_,fun h _=>?_⟩
    ·have:=a h;simp only [List.length_cons];omega
    ·rw [show zcq (p::ps)=zM p from rfl,hd] at h;cases h
    ·have:=c h hn;simp only [List.length_cons];omega
def MR (o:Option (List Hit)) (out:List Hit) (r:List Hit × Bool):Prop:=r.2=o.isSome∧∀ h,o=some h→r.1=out++h
theorem MR.none {out:List Hit} {x:List Hit}:MR none out (x,false):=⟨rfl,fun h hh=>by cases hh⟩
theorem MR.app {a b:Option (List Hit)} {h1 out:List Hit} {r:List Hit × Bool} (ha:a=some h1) (h:MR b (out++h1) r):MR (oapp a b) out r:=by
 subst ha
 cases b with
 | none=>exact ⟨h.1,fun x hx=>by simp [oapp] at hx⟩
 | some h2 =>
   refine ⟨h.1,fun x hx=>?_⟩
   simp [oapp] at hx;subst hx
   rw [h.2 h2 rfl,List.append_assoc]
theorem rowAt {ps:List Form} (hc:cntD ps≤1) {k:Nat} (hk:k < ps.length):zb9 ps 0 (-1)=(k:Int)↔zcq (ps.drop (k+1))=true:=by
 cases ps with
 | nil=>simp at hk
 | cons x xs =>
   rw [cntD] at hc
   have:=lastRow_iff xs x 0 (-1) (by omega) (by omega) k hk
   rw [Nat.zero_add] at this
   exact this
structure ListS (bs:List Bind) (lits ps fs:List Form):Prop where
 kid:∀ x∈ps,KidS x
 kp:Form.kP true ps=true
 cnt:cntD ps≤1
 lp:ps.length≤2 ^ 30
 lf:fs.length≤2 ^ 30
 wp:Form.ws ps≤2 ^ 30
 ih:∀ x∈ps,zM x=false→∀ f∈fs,TQ (fun m=>zcr m bs x lits f) (MR (x.mt bs lits f) [])
theorem rowLoop {bs:List Bind} {lits ps fs:List Form} (hS:ListS bs lits ps fs) {x:Form} {k:Nat} (hx:ps[k]?=some x) (hd:zM x=false) {row:Int} {out:List Hit} {Q:List Hit × Bool→Prop} :
  ∀ (ys:List Form) (at_:Nat) (rows:List (List Hit)),(∃ rest,fs.drop at_=ys++rest)→rows.length≤at_→(∀ rs,allM (fun f=>x.mt bs lits f) ys=some rs→TQ (fun m=>zc6 m bs ps lits fs row (k:Int) out ((at_+ys.length:Nat):Int) (rows++rs)) Q)→(allM (fun f=>x.mt bs lits f) ys=none→Q (out,false)) →
    TQ (fun m=>zcc m bs ps lits fs row (k:Int) out (at_:Int) rows (ys.length:Int)) Q
 | [],at_,rows,_,_,h1,_=>by
   have:=h1 [] rfl
   rw [List.length_nil,Nat.add_zero,List.append_nil] at this
   exact TQ.step (fun m=>by rw [zcc];rfl) this
 | y::ys,at_,rows,hp,hr,h1,h2=>by
   obtain ⟨rest,hp⟩:=hp
   have hlt:at_ < fs.length:=by
    have:=congrArg List.length hp
    rw [List.length_drop] at this;simp at this;omega
   have hy:fs[at_]?=some y:=by
    have:=congrArg (fun l=>l[0]?) hp
    simpa using this
   have hlf:=hS.lf
   have hp2:fs.drop (at_+1)=ys++rest:=by rw [← List.drop_drop,hp];rfl
   refine TQ.step (fun m=>by rw [zcc,show decide ((0:Int) < ((y::ys).length:Int))=true by simp,cond_true,zL hx,Option.bind_some,zL hy,Option.bind_some]) ?_
   refine TQ.bind (hS.ih x (List.mem_of_getElem? hx) hd y (List.mem_of_getElem? hy)) (fun r hr2=>?_)
   obtain ⟨r1,r2⟩:=hr2
   cases hm:x.mt bs lits y with
   | none =>
     rw [hm] at r1
     rw [r1]
     exact TQ.cond (fun _=>TQ.val (h2 (by rw [allM,hm]))) (fun h=>by cases h)
   | some h =>
     rw [hm] at r1
     rw [r1]
     have rr:=r2 h hm
     rw [List.nil_append] at rr
     refine TQ.cond (fun h=>by cases h) (fun _=>?_)
     refine TQ.chk (decide_eq_true (by simp;omega)) ?_
     rw [rr]
     have:=rowLoop hS hx hd (row:=row) (out:=out) (Q:=Q) ys (at_+1) (rows++[h]) ⟨rest,hp2⟩ (by simp;omega) (fun rs hrs=>by
      have:=h1 (h::rs) (by rw [allM,hm];simp only;rw [hrs])
      rw [List.append_assoc]
      rw [List.length_cons] at this
      rw [show at_+1+ys.length=at_+(ys.length+1) by omega]
      exact this) (fun hn=>h2 (by rw [allM,hm];simp only;rw [hn]))
     have hyl:ys.length≤fs.length:=by
      have:=congrArg List.length hp
      rw [List.length_drop] at this;simp at this;omega
     refine TQ.eq (fun m=>by rw [zaM (by omega),zaM (by simp;omega),zcj,show (((y::ys).length:Int)-1)=(ys.length:Int) by simp]) this
theorem l4Loop {bs:List Bind} {lits ps fs:List Form} (hS:ListS bs lits ps fs):∀ (rest:List Form) (k:Nat) (out:List Hit) (at_:Nat),ps.drop k=rest→at_≤fs.length →
  ((cntD rest=0∧rest.length=fs.length-at_)∨(cntD rest=1∧zcq rest=true∧rest.length=fs.length-at_+1)∨(cntD rest=1∧zcq rest=false∧rest.length≤fs.length-at_+2∧at_=k)) →
  out.length+4*(Form.ws rest*(1+Form.ws (fs.drop at_)))≤2 ^ 37 →
  TQ (fun m=>zbz m bs ps lits fs (zb9 ps 0 (-1)) (k:Int) out (at_:Int)) (MR (Form.mts bs lits rest (fs.drop at_)) out)
 | [],k,out,at_,hd,hat,hl,_=>by
   have hk:¬ k < ps.length:=by have:=congrArg List.length hd;rw [List.length_drop] at this;simp at this;omega
   have hz:(fs.drop at_).length=0:=by
    rw [List.length_drop]
    rcases hl with ⟨_,h⟩ | ⟨h,_⟩ | ⟨h,_⟩
    ·simpa using h.symm
    ·simp [cntD] at h
    ·simp [cntD] at h
   refine TQ.step (fun m=>by rw [zbz,geN hk,cond_false]) (TQ.val ?_)
   rw [Form.mts,decide_eq_true hz]
   exact ⟨rfl,fun h hh=>by cases hh;simp⟩
 | x::xs,k,out,at_,hd,hat,hl,hw=>by
   have hk:k < ps.length:=by have:=congrArg List.length hd;rw [List.length_drop] at this;simp at this;omega
   have hx:ps[k]?=some x:=by
    have:=congrArg (fun l=>l[0]?) hd
    simpa using this
   have hm:=List.mem_of_getElem? hx
   have hd2:ps.drop (k+1)=xs:=by rw [← List.drop_drop,hd];rfl
   have hlp:=hS.lp
   have hlf:=hS.lf
   rw [Form.ws] at hw
   refine TQ.step (fun m=>by rw [zbz,ltN hk,cond_true,zL hx,Option.bind_some,Option.bind_some]) (TQ.ev (zha x) ?_)
   rw [Form.mts_eq]
   rw [cntD] at hl
   cases hdx:zM x with
   | true =>
     rw [hdx,cond_true] at hl
     refine TQ.cond (fun _=>?_) (fun h=>by cases h)
     rw [zcj,cond_true]
     refine l4Loop hS xs (k+1) out at_ hd2 hat ?_ (Nat.le_trans (Nat.add_le_add_left (Nat.mul_le_mul_left 4 (Nat.mul_le_mul_right _ (by omega))) _) hw)
     rw [List.length_cons] at hl
     rcases hl with ⟨h,_⟩ | ⟨h,_,h3⟩ | ⟨_,h,_⟩
     ·omega
     ·exact .inl ⟨by omega,by omega⟩
     ·rw [show zcq (x::xs)=zM x from rfl,hdx] at h;cases h
   | false =>
     rw [hdx,cond_false,Nat.zero_add] at hl
     have hnx:zcq (x::xs)=false:=hdx
     refine TQ.cond (fun h=>by cases h) (fun _=>?_)
     rw [cond_false]
     have hrow:=rowAt hS.cnt hk
     rw [hd2] at hrow
     cases hn:zcq xs with
     | false =>
       rw [hn] at hrow
       have hne:¬ zb9 ps 0 (-1)=(k:Int):=fun h=>by have:=hrow.1 h;cases this
       rw [cond_false]
       -- a form is left
       have hlt:at_ < fs.length:=by
        rw [List.length_cons] at hl
        rcases hl with ⟨_,h⟩ | ⟨_,h,_⟩ | ⟨h1,_,h3,_⟩
        ·omega
        ·rw [hnx] at h;cases h
        ·have:2≤xs.length:=by
          cases xs with
          | nil=>simp [cntD] at h1
          | cons y ys =>
            cases ys with
            | nil =>
              rw [cntD,cntD,show zM y=false from hn] at h1;cases h1
            | cons z zs=>simp
         omega
       have hy:fs[at_]?=some fs[at_]:=List.getElem?_eq_getElem hlt
       have hdr:fs.drop at_=fs[at_]::fs.drop (at_+1):=List.drop_eq_getElem_cons hlt
       rw [hdr]
       simp only
       rw [hdr,Form.ws] at hw
       refine TQ.cond (fun _=>?_) (fun h=>absurd (fun e:(k:Int)=zb9 ps 0 (-1)=>hne e.symm) (by simpa using h))
       refine TQ.eq (fun m=>by rw [zL hy,Option.bind_some]) ?_
       refine TQ.bind (hS.ih x hm hdx _ (List.mem_of_getElem? hy)) (fun r hr=>?_)
       obtain ⟨r1,r2⟩:=hr
       cases hmt:x.mt bs lits fs[at_] with
       | none =>
         rw [hmt] at r1
         rw [r1]
         exact TQ.cond (fun _=>TQ.val MR.none) (fun h=>by cases h)
       | some h1 =>
         rw [hmt] at r1
         rw [r1]
         have rr:=r2 h1 hmt
         rw [List.nil_append] at rr
         have hw1:=mt_w ((hS.kid x hm).pat hdx) hmt
         have hpr:=prod_one x.w (Form.ws xs) fs[at_].w (Form.ws (fs.drop (at_+1)))
         have hlh:=Hit.ws_len h1
         refine TQ.cond (fun h=>by cases h) (fun _=>?_)
         rw [rr]
         refine TQ.chk (decide_eq_true (by omega)) ?_
         refine TQ.mono (TQ.eq (fun m=>by rw [zcj,zaM (by omega),zcj]) (l4Loop hS xs (k+1) (out++h1) (at_+1) hd2 (by omega) ?_ (by rw [List.length_append];omega))) (fun r hr=>MR.app rfl hr)
         rw [List.length_cons] at hl
         rcases hl with ⟨h,h2⟩ | ⟨_,h,_⟩ | ⟨h1,_,h3,h4⟩
         ·exact .inl ⟨h,by omega⟩
         ·rw [hnx] at h;cases h
         ·exact .inr (.inr ⟨h1,hn,by omega,by omega⟩)
     | true =>
       rw [hn] at hrow
       have he:zb9 ps 0 (-1)=(k:Int):=hrow.2 rfl
       rw [cond_true]
       obtain ⟨C1,C3,C4⟩:cntD xs=1∧xs.length+1≤fs.length-at_+2∧at_=k:=by
        rw [List.length_cons] at hl
        rcases hl with ⟨h,_⟩ | ⟨_,h,_⟩ | ⟨h1,_,h3,h4⟩
        ·rw [(zex xs 0 0 h).1] at hn;cases hn
        ·rw [hnx] at h;cases h
        ·exact ⟨h1,h3,h4⟩
       have hx1:1≤xs.length:=by
        cases xs with
        | nil=>simp [cntD] at C1
        | cons y ys=>simp
       have hdl:(fs.drop at_).length=fs.length-at_:=List.length_drop
       have hpl:ps.length=k+1+xs.length:=by
        have:=congrArg List.length hd;rw [List.length_drop] at this;simp at this;omega
       rw [hdl,decide_eq_false (show ¬ fs.length-at_+1 < xs.length by omega),cond_false]
       refine TQ.cond (fun h=>absurd he.symm (by simpa using h)) (fun _=>?_)
       generalize hN:fs.length-at_+1-xs.length=N
       have hNl:((fs.drop at_).take N).length=N:=by rw [List.length_take,hdl];omega
       have hn64:w64 ((fs.length:Int)-(w64 ((ps.length:Int)-2)))=((((fs.drop at_).take N).length:Nat):Int):=by
        rw [zaM (n:=(ps.length:Int)-2) (by omega),zaM (by omega),hNl];omega
       refine TQ.eq (fun m=>by rw [hn64]) (rowLoop hS hx hdx ((fs.drop at_).take N) at_ [] ⟨(fs.drop at_).drop N,(List.take_append_drop _ _).symm⟩ (by simp) (fun rows ha=>?_) (fun ha=>by rw [ha];exact MR.none))
       rw [ha,hNl,List.nil_append]
       have hlen:∀ r∈rows,r.length=(x.vd lits 0).length:=fun r hr=>by
        obtain ⟨f,_,hf⟩:=allM_mem ha r hr
        exact mt_len ((hS.kid x hm).pat hdx) hf
       have hrl:rows.length=N:=by rw [allM_len ha,hNl]
       have hxw:=Form.ws_mem hm
       have hwp:=hS.wp
       refine TQ.step (fun m=>by rw [zc6,zL hx,Option.bind_some]) (TQ.ev (l4Row_tr x lits rows (by omega) (by omega) hlen) ?_)
       have r2:=rows_w (fun f h hf=>mt_w ((hS.kid x hm).pat hdx) hf) ha
       have r3:=rowH_w (x.vd lits 0) 0 rows (fun r hr=>by rw [Nat.zero_add];exact hlen r hr)
       rw [Form.vd_fst] at r3
       have r4:=vsum_vs lits _ x (Nat.le_refl _) (hS.kid x hm).1
       have hpr:=prod_row x.w (Form.ws xs) (Form.ws ((fs.drop at_).take N)) (Form.ws ((fs.drop at_).drop N))
       rw [ws_take_drop] at hpr
       have hlh:=Hit.ws_len (rowH 0 (x.vd lits 0) rows)
       rw [List.drop_drop] at hpr
       refine TQ.chk (decide_eq_true (by omega)) ?_
       refine TQ.mono (TQ.eq (fun m=>by rw [zcj]) (l4Loop hS xs (k+1) (out++rowH 0 (x.vd lits 0) rows) (at_+N) hd2 (by omega) (.inr (.inl ⟨C1,hn,by omega⟩)) (by rw [List.length_append];omega))) (fun r hr=>?_)
       simp only
       rw [List.drop_drop]
       exact MR.app rfl hr
theorem l4List_of {bs:List Bind} {lits ps fs:List Form} (hS:ListS bs lits ps fs) (hw:4*(Form.ws ps*(1+Form.ws fs))≤2 ^ 37):TQ (fun m=>zeC m bs ps lits fs) (MR (Form.mts bs lits ps fs) []):=by
 have hlp:=hS.lp
 have hlf:=hS.lf
 have hc:=hS.cnt
 have hhead:zM (ps.headD form0)=false:=by
  have:=hS.kp
  cases ps with
  | nil=>rfl
  | cons x xs =>
    rw [Form.kP,Bool.and_eq_true] at this
    rw [List.headD_cons]
    cases hd:zM x with
    | true=>rw [hd] at this;cases this.1
    | false=>rfl
 have hnd:zcq ps=false:=by
  cases ps with
  | nil=>rfl
  | cons x xs=>exact hhead
 refine TQ.step (fun m=>by rw [zeC]) (lastRow_tr bs lits fs ps (by omega) (TQ.step (fun m=>by rw [zc7]) ?_))
 have hneg:=lastRow_neg ps hc hhead
 have l4:((cntD ps=0∧ps.length=fs.length-0)∨(cntD ps=1∧zcq ps=true∧ps.length=fs.length-0+1)∨(cntD ps=1∧zcq ps=false∧ps.length≤fs.length-0+2∧0=0))→TQ (fun m=>zbW m bs ps lits fs (zb9 ps 0 (-1))) (MR (Form.mts bs lits ps fs) []):=fun h=>by
  have:=l4Loop hS ps 0 [] 0 (by rw [List.drop_zero]) (Nat.zero_le _) h (by rw [List.drop_zero];simpa using hw)
  rw [List.drop_zero] at this
  exact TQ.step (fun m=>by rw [zbW];rfl) this
 have no:(∀ h,Form.mts bs lits ps fs≠some h)→TQ (fun _=>some (([]:List Hit),false)) (MR (Form.mts bs lits ps fs) []):=fun h=>by
  cases hm:Form.mts bs lits ps fs with
  | none=>exact TQ.val MR.none
  | some x=>exact absurd hm (h x)
 refine TQ.cond (fun h=>?_) (fun h=>?_)
 ·have hneg0:zb9 ps 0 (-1) < 0:=by simpa using h
  have h0:=hneg.1 hneg0
  refine TQ.cond (fun h2=>no fun x hx=>?_) (fun h2=>TQ.cond (fun h3=>?_) (fun _=>l4 (.inl ⟨h0,?_⟩)))
  ·have:=(mts_len hx).1 h0
   rw [this] at h2;simp at h2
  ·have h3:0≤zb9 ps 0 (-1):=by simpa using h3
   omega
  ·have:(ps.length:Int)=(fs.length:Int):=by simpa using h2
   omega
 ·have hnn:¬ zb9 ps 0 (-1) < 0:=by simpa using h
  have h1:cntD ps=1:=by
   by_cases h0:cntD ps=0
   ·exact absurd (hneg.2 h0) hnn
   ·omega
  refine TQ.cond (fun _=>TQ.cond (fun h2=>no fun x hx=>?_) (fun h2=>l4 (.inr (.inr ⟨h1,hnd,?_,rfl⟩)))) (fun h3=>?_)
  ·have:=(mts_len hx).2.2 h1 hnd
   rw [zaM (by omega)] at h2
   have h2:=of_decide_eq_true h2
   omega
  ·rw [zaM (by omega)] at h2
   have h2:=of_decide_eq_false h2
   omega
  ·have h3:=of_decide_eq_false h3
   omega
theorem l4Match_n (bs:List Bind) (lits:List Form) (hbs:bs.length≤2 ^ 36):∀ (n:Nat) (p:Form),p.w≤n→PatS p→p.w≤2 ^ 17→∀ f:Form,f.w≤2 ^ 17→TQ (fun m=>zcr m bs p lits f) (MR (p.mt bs lits f) []):=by
 intro n
 induction n with
 | zero=>intro p h;have:=p.w_kids;omega
 | succ n ih =>
   intro p hp hs hpb f hfb
   have hw:=p.w_kids
   have hfw:=f.w_kids
   obtain ⟨q1,q2,q3,q4,q5⟩:=hs.parts
   refine TQ.step (fun m=>by rw [zcr]) ?_
   rw [Form.mt_eq]
   have nil:∀ b:Bool,MR (bif b then some [] else none) [] (([]:List Hit),b):=fun b=>by
    cases b with
    | true=>exact ⟨rfl,fun h hh=>by cases hh;rfl⟩
    | false=>exact MR.none
   refine TQ.cond (fun h1=>?_) (fun h1=>?_)
   ·rw [h1,cond_true]
    refine TQ.cond (fun h2=>?_) (fun h2=>?_)
    ·rw [show decide (p.name=zgd)=true from h2,cond_true]
     exact TQ.val (nil true)
    ·rw [show decide (p.name=zgd)=false from h2,cond_false]
     refine TQ.ev (l4In_tr _ _) ?_
     cases inF lits p with
     | true =>
       refine TQ.cond (fun _=>?_) (fun h=>by cases h)
       rw [cond_true]
       have j1:∀ b:Bool,TQ (fun m=>zck m b) (MR (bif b then some [] else none) []):=fun b=>TQ.step (fun m=>by rw [zck]) (TQ.val (nil b))
       refine TQ.cond (fun h3=>?_) (fun h3=>?_)
       ·rw [h3,Bool.true_and]
        exact TQ.ev (l3Same_tr bs p f hbs) (j1 _)
       ·rw [h3,Bool.false_and]
        exact j1 false
     | false =>
       refine TQ.cond (fun h=>by cases h) (fun _=>?_)
       rw [cond_false]
       exact TQ.chk (by simp) (TQ.val ⟨rfl,fun h hh=>by cases hh;rfl⟩)
   ·rw [h1,cond_false]
    refine TQ.cond (fun h2=>?_) (fun h2=>?_)
    ·rw [h2,cond_true]
     exact TQ.ev (specFormSame_tr _ _) (TQ.val (nil _))
    ·rw [h2,cond_false]
     refine TQ.cond (fun h3=>?_) (fun h3=>?_)
     ·rw [h3,cond_true];exact TQ.val MR.none
     ·rw [h3,cond_false]
      have hl1:=Form.ws_len p.kids
      have hl2:=Form.ws_len f.kids
      refine TQ.mono (TQ.bind (Q:=MR (Form.mts bs lits p.kids f.kids) []) (l4List_of ⟨q4,q2,q3,by omega,by omega,by omega,fun x hx hd g hg=>ih x (by have:=Form.ws_mem hx;omega) ((q4 x hx).pat hd) (by have:=Form.ws_mem hx;omega) g (by have:=Form.ws_mem hg;omega)⟩ ?_) (fun v hv=>TQ.val hv)) (fun r hr=>hr)
      have h4:Form.ws p.kids*(1+Form.ws f.kids)≤2 ^ 17*2 ^ 17:=Nat.mul_le_mul (by omega) (by omega)
      omega
end Go.Abs
end
section
set_option linter.unusedVariables false
set_option linter.unusedSimpArgs false
namespace Go.Abs
def bindOk (b:Bind):Bool:=nmOk b.name&&(scOk b.scopes&&(decide (1≤b.id)&&decide (b.id≤999)))
noncomputable def bvF:List Bind→List Bind→Bool
 | _,[]=>true
 | ps,b::bs=>(bindOk b&&!anys (fun c=>decide (c.name=b.name)&&same c.scopes b.scopes) ps)&&bvF (ps++[b]) bs
noncomputable def bvOk (l:List Bind):Bool:=bvF [] l&&decide ((l.length:Int)≤60)
def Bind.fit (b:Bind):Prop:=b.name.size≤9223372036854775807∧b.scopes.length≤9223372036854775807
theorem zfN (l:List Bind) (hf:∀ b∈l,b.fit):Tr (fun m=>zdE m l) (bvOk l):=by
 refine Tr.eq (fun m=>by unfold zdE;rfl) ?_
 have key:=zaj l (fun k zs=>Tr (fun m=>zbb m l (k:Int)) (bvF (l.take k) zs&&decide ((l.length:Int)≤60))) ?_ ?_ 0 (Nat.zero_le _)
 ·simpa [bvOk] using key
 ·exact Tr.step (fun m=>by rw [zbb,zad,cond_false]) (Tr.step (fun m=>by rw [zbd,cond_false]) (by rw [bvF,Bool.true_and];exact Tr.val))
 ·intro k x zs hk hx hd ih
  have hm:=List.mem_of_getElem? hx
  have hxf:=hf x hm
  rw [zfL hx] at ih
  refine Tr.step (fun m=>by rw [zbb,ltN hk,cond_true]) ?_
  by_cases h60:k≤60
  case neg =>
   refine Tr.step (fun m=>by rw [zbd,decide_eq_false (show ¬ (k:Int)≤60 by omega),cond_false]) ?_
   rw [decide_eq_false (show ¬ (l.length:Int)≤60 by omega),Bool.and_false]
   exact Tr.val
  refine Tr.step (fun m=>by rw [zbd,decide_eq_true (show (k:Int)≤60 by omega),cond_true,zL hx,Option.bind_some]) (Tr.bind (specNm_tr _) ?_)
  have j3:∀ b:Bool,bindOk x=!b→Tr (fun m=>zaq m l (k:Int) b) (bvF (l.take k) (x::zs)&&decide ((l.length:Int)≤60)):=by
   intro b hb
   rw [bvF,hb]
   cases b with
   | true=>exact Tr.step (fun m=>by rw [zaq,cond_true];rfl) Tr.val
   | false =>
     rw [Bool.not_false,Bool.true_and]
     refine Tr.step (fun m=>by rw [zaq,cond_false]) ?_
     have inner:∀ d j:Nat,j+d=k→Tr (fun m=>zba m l (k:Int) (j:Int)) ((!anys (fun c=>decide (c.name=x.name)&&same c.scopes x.scopes) ((l.take k).drop j)&&bvF (l.take k++[x]) zs)&&decide ((l.length:Int)≤60)):=by
      intro d
      induction d with
      | zero =>
        intro j hj
        obtain rfl:j=k:=by omega
        refine Tr.step (fun m=>by rw [zba,zad,cond_false,zaM (by omega),zcj]) ?_
        rw [show (l.take j).drop j=[] by rw [List.drop_eq_nil_iff,List.length_take];omega,anys,Bool.not_false,Bool.true_and]
        exact ih
      | succ d ihd =>
        intro j hj
        have hjl:j < l.length:=by omega
        have hy:l[j]?=some l[j]:=List.getElem?_eq_getElem hjl
        have hdr:(l.take k).drop j=l[j]::(l.take k).drop (j+1):=by
         have:(l.take k)[j]?=some l[j]:=by rw [List.getElem?_take,if_pos (by omega),hy]
         exact drop_get this
        rw [hdr,anys]
        refine Tr.step (fun m=>by rw [zba,ltN (show j < k by omega),cond_true,zL hy,Option.bind_some,zL hx,Option.bind_some]) ?_
        have j5:∀ b:Bool,(decide (l[j].name=x.name)&&same l[j].scopes x.scopes)=b→Tr (fun m=>zbc m l (k:Int) (j:Int) b) ((!((decide (l[j].name=x.name)&&same l[j].scopes x.scopes)||anys (fun c=>decide (c.name=x.name)&&same c.scopes x.scopes) ((l.take k).drop (j+1)))&&bvF (l.take k++[x]) zs)&&decide ((l.length:Int)≤60)):=by
         intro b hb
         rw [hb]
         cases b with
         | true=>exact Tr.step (fun m=>by rw [zbc,cond_true];rfl) Tr.val
         | false=>exact Tr.step (fun m=>by rw [zbc,cond_false,zaM (by omega),zcj]) (by rw [Bool.false_or];exact ihd (j+1) (by omega))
        by_cases hn:l[j].name=x.name
        ·refine Tr.tt (decide_eq_true hn) (Tr.eq (fun m=>by rw [Option.bind_some,Option.bind_some]) (Tr.bind (l1Ints_tr _ _) (j5 _ ?_)))
         rw [decide_eq_true hn,Bool.true_and]
        ·refine Tr.ff (decide_eq_false hn) (j5 false ?_)
         rw [decide_eq_false hn,Bool.false_and]
     have:=inner k 0 (by omega)
     rw [List.drop_zero] at this
     exact this
  unfold bindOk at j3
  cases hn:nmOk x.name with
  | false=>exact Tr.tt rfl (j3 true (by rw [hn];rfl))
  | true =>
  refine Tr.ff rfl (Tr.eq (fun m=>by rw [Option.bind_some]) (Tr.bind (specSc_tr _ hxf.2) ?_))
  cases hs:scOk x.scopes with
  | false=>exact Tr.tt rfl (j3 true (by rw [hn,hs];rfl))
  | true =>
  refine Tr.ff rfl (Tr.eq (fun m=>by rw [Option.bind_some]) ?_)
  by_cases h1:x.id < 1
  ·exact Tr.tt (decide_eq_true h1) (j3 true (by rw [decide_eq_false (show ¬ 1≤x.id by omega),Bool.false_and,Bool.and_false,Bool.and_false];rfl))
  ·refine Tr.ff (decide_eq_false h1) (Tr.eq (fun m=>by rw [Option.bind_some]) (j3 _ ?_))
   rw [hn,hs,decide_eq_true (show 1≤x.id by omega),Bool.true_and,Bool.true_and,Bool.true_and]
   by_cases h2:x.id≤999
   ·rw [decide_eq_true h2,decide_eq_false (show ¬ 999 < x.id by omega)];rfl
   ·rw [decide_eq_false h2,decide_eq_true (show 999 < x.id by omega)];rfl
noncomputable def zfj (bs:List Bind) (p:Form) (lits:List Form) (f:Form):List Hit × Bool :=
 bif bvOk bs&&(patOk p lits&&f.valid) then (match p.mt bs lits f with
  | some h=>(h,true)
  | none=>([],false)) else ([],false)
theorem patOk_S {p:Form} {lits:List Form} (h:patOk p lits=true):PatS p:=by
 unfold patOk Form.valid at h
 simp only [Bool.and_eq_true] at h
 exact ⟨⟨40,h.1.1⟩,h.2.2.1⟩
theorem specMatchPattern_tr (bs:List Bind) (p:Form) (lits:List Form) (f:Form) (hb:∀ b∈bs,b.fit) (hbl:bs.length≤2 ^ 36) (hp:p.fit) (hpw:p.w≤2 ^ 17) (hl:Form.fits lits) (hlw:Form.ws lits≤2 ^ 36) (hf:f.fit) (hfw:f.w≤2 ^ 17) :
  Tr (fun m=>zbr m bs p lits f) (zfj bs p lits f):=by
 refine Tr.eq (fun m=>by unfold zbr;rfl) (Tr.bind (zfN bs hb) ?_)
 unfold zfj
 have no:Tr (fun m=>zU m bs p lits f true) (([]:List Hit),false):=Tr.step (fun m=>by rw [zU];rfl) Tr.val
 cases bvOk bs with
 | false=>exact Tr.tt rfl no
 | true =>
 refine Tr.ff rfl (Tr.bind (l4Is_tr p lits hp (by omega) hl hlw) ?_)
 cases hpo:patOk p lits with
 | false=>exact Tr.tt rfl no
 | true =>
 refine Tr.ff rfl (Tr.bind (ze0 f hf (by omega)) ?_)
 cases f.valid with
 | false=>exact no
 | true =>
 refine Tr.step (fun m=>by rw [zU,Bool.not_true,cond_false]) (TQ.tr ?_)
 rw [Bool.true_and,Bool.true_and,cond_true]
 refine TQ.bind (l4Match_n bs lits hbl _ p (Nat.le_refl _) (patOk_S hpo) hpw f hfw) (fun r hr=>?_)
 obtain ⟨r1,r2⟩:=hr
 cases hm:p.mt bs lits f with
 | none=>rw [hm] at r1;rw [r1];exact TQ.cond (fun _=>TQ.val rfl) (fun h=>by cases h)
 | some h =>
   rw [hm] at r1
   rw [r1]
   have rr:=r2 h hm
   rw [List.nil_append] at rr
   refine TQ.cond (fun h=>by cases h) (fun _=>?_)
   rw [rr]
   have hw:=mt_w (patOk_S hpo) hm
   have h4:p.w*f.w≤2 ^ 17*2 ^ 17:=Nat.mul_le_mul hpw hfw
   exact TQ.ev (l4Copy_tr h (by omega)) (TQ.val rfl)
end Go.Abs
end
section
set_option linter.unusedVariables false
set_option linter.unusedSimpArgs false
namespace Go.Abs
theorem isOk_name {f:Form} {d:Nat} (h:f.isOk d=true) (h1:f.kind=1):f.valid=true∧f.kids=[]:=by
 have hk:=(zf5 h).1 (by omega)
 refine ⟨?_,hk⟩
 unfold Form.valid
 rw [Form.isOk_eq] at h ⊢
 cases hd:decide (d=0) with
 | true=>rw [hd] at h;cases h
 | false =>
   rw [hd,cond_false,decide_eq_true h1,cond_true] at h
   rw [decide_eq_false (by omega),cond_false,decide_eq_true h1,cond_true,h,Form.cnt_eq,hk,Form.cnts];rfl
end Go.Abs
end
section
set_option linter.unusedVariables false
set_option linter.unusedSimpArgs false
namespace Go.Abs
def sumW {α:Type} (W:α→Nat):List α→Nat
 | []=>0
 | x::xs=>W x+sumW W xs
theorem sumW_mem {α:Type} {W:α→Nat}:∀ {l:List α} {x:α},x∈l→W x≤sumW W l
 | y::ys,x,h=>by
   rw [sumW]
   rcases List.mem_cons.1 h with rfl | h
   ·omega
   ·have:=sumW_mem (W:=W) h;omega
theorem sz_loop {α:Type} {l:List α} {W:α→Nat} {L:Nat→Int→Int→Option Int} {E:Nat→α→Int→Option Int}
  (h0:∀ m g k,L (m+1) g k=bif decide (k < (l.length:Int)) then (idx l k).bind fun a=>(E m a g).bind fun v=>bif decide (v < 0) then some (-1) else L m v (k+1) else some g)
  (hE:∀ x∈l,∀ v:Int,0≤v→v≤2 ^ 40→TQ (fun m=>E m x v) (Left v (W x))) {v:Int} (hv:0≤v) (h1:v≤2 ^ 40):TQ (fun m=>L m v 0) (Left v (sumW W l)):=by
 have key:=zaj l (fun k zs=>∀ g:Int,0≤g→g≤2 ^ 40→TQ (fun m=>L m g (k:Int)) (Left g (sumW W zs))) ?_ ?_ 0 (Nat.zero_le _) _ hv h1
 ·simpa using key
 ·intro g hg _
  exact TQ.step (fun m=>by rw [h0,zad,cond_false]) (TQ.val (.inr ⟨hg,by simp [sumW]⟩))
 ·intro k x zs hk hx hd ihk g hg hg1
  refine TQ.step (fun m=>by rw [h0,ltN hk,cond_true,zL hx,Option.bind_some,zcj]) ?_
  refine TQ.bind (hE x (List.mem_of_getElem? hx) g hg hg1) (fun r hr=>?_)
  rcases hr with rfl | ⟨hr,rfl⟩
  ·exact TQ.cond (fun _=>TQ.val (.inl rfl)) (fun h=>absurd h (by decide))
  refine TQ.cond (fun h=>absurd h (by rw [geZ hr];decide)) (fun _=>?_)
  refine TQ.mono (ihk _ hr (by omega)) (fun r hr=>?_)
  rcases hr with hr | ⟨hr,he⟩
  ·exact .inl hr
  ·exact .inr ⟨hr,by rw [he,sumW];omega⟩
theorem sz_many {α:Type} {l:List α} {n:Nat} {v:Int} {G:Int→Nat→Option Int} (hl:l.length≤9223372036854775807) (h0:0≤v) (h1:v≤2 ^ 40) (hG:∀ r:Int,0≤r→r=v-l.length→TQ (fun m=>G r m) (Left r n)) :
  TQ (fun m=>bif decide ((w64 (v-(l.length:Int))) < 0) then some (-1) else G (w64 (v-(l.length:Int))) m) (Left v (l.length+n)):=by
 rw [zaM (by omega)]
 refine TQ.cond (fun _=>TQ.val (.inl rfl)) (fun h=>?_)
 replace h:0≤v-(l.length:Int):=by simpa using h
 refine TQ.mono (hG _ h rfl) (fun r hr=>?_)
 rcases hr with hr | ⟨hr,he⟩
 ·exact .inl hr
 ·exact .inr ⟨hr,by rw [he];omega⟩
def Bind.wt (b:Bind):Nat:=b.name.size+b.scopes.length
def Rule.wt (r:Rule):Nat:=r.pattern.wt+r.template.wt
def zaQ.wt (m:zaQ):Nat:=Form.wts m.literals+(m.rules.length+sumW Rule.wt m.rules)
def zae.wt (x:zae):Nat:=(x.binds.length+sumW Bind.wt x.binds)+(x.macros.length+sumW zaQ.wt x.macros)
structure Rule.fit (r:Rule):Prop where
 p:r.pattern.fit
 t:r.template.fit
structure zaQ.fit (m:zaQ):Prop where
 ll:m.literals.length≤9223372036854775807
 l:Form.fits m.literals
 rl:m.rules.length≤9223372036854775807
 r:∀ r∈m.rules,r.fit
structure zae.fit (x:zae):Prop where
 bl:x.binds.length≤9223372036854775807
 b:∀ b∈x.binds,b.fit
 ml:x.macros.length≤9223372036854775807
 m:∀ m∈x.macros,m.fit
theorem szBind_tq (b:Bind) (v:Int) (hb:b.fit) (h0:0≤v) (h1:v≤2 ^ 40):TQ (fun m=>zeH m b v) (Left v b.wt):=by
 have h2:=hb.1
 refine TQ.eq (fun m=>by unfold zeH;rw [zaM (by omega)]) ?_
 refine TQ.cond (fun _=>TQ.val (.inl rfl)) (fun h=>?_)
 replace h:0≤v-(b.name.size:Int):=by simpa using h
 refine TQ.bind (szIntS_tq _ _ hb.2 h (by omega)) (fun r hr=>?_)
 rcases hr with rfl | ⟨hr,rfl⟩
 ·exact TQ.cond (fun _=>TQ.val (.inl rfl)) (fun h=>absurd h (by decide))
 exact TQ.cond (fun h=>absurd h (by rw [geZ hr];decide)) (fun _=>TQ.val (.inr ⟨hr,by unfold Bind.wt;omega⟩))
theorem szBindS_tq (l:List Bind) (v:Int) (hl:l.length≤9223372036854775807) (hb:∀ b∈l,b.fit) (h0:0≤v) (h1:v≤2 ^ 40):TQ (fun m=>zeT m l v) (Left v (l.length+sumW Bind.wt l)):=by
 refine TQ.eq (fun m=>by unfold zeT;rfl) (sz_many hl h0 h1 (G:=fun r m=>zb1 m l r 0) (fun r h2 e=>?_))
 exact sz_loop (L:=fun m g k=>zb1 m l g k) (E:=fun m a g=>zeH m a g) (fun m g k=>by rw [zb1]) (fun x hx v h h'=>szBind_tq x v (hb x hx) h h') h2 (by omega)
theorem toBind_tr (b:Bind) (h:b.scopes.length≤2 ^ 36):Tr (fun m=>zdi m b) b:=by
 refine Tr.eq (fun m=>by unfold zdi;rfl) (Tr.bind (toIntS_tr _ h) ?_)
 obtain ⟨x,y,z⟩:=b;exact Tr.val
theorem toBindS_tr (l:List Bind) (hl:l.length≤2 ^ 36) (h:∀ b∈l,b.scopes.length≤2 ^ 36):Tr (fun m=>zb2 m l) l:=by
 refine Tr.eq (fun m=>by unfold zb2;rfl) (Tr.chk (by simp;omega) ?_)
 have:=loop_copy (xs:=l) (z:=Bind.mk (⟨#[]⟩:ByteArray) ([]:List Int) 0) (f:=fun x=>x) (L:=fun m k acc=>za6 m l k acc) (E:=fun m a=>zdi m a) (fun m k acc=>by rw [za6]) (fun a ha=>toBind_tr a (h a ha))
 simpa using this
theorem loop_self {α:Type} {xs:List α} {L:Nat→Int→Option Bool} {E:Nat→α→α→Option Bool}
  (h0:∀ m k,L (m+1) k=bif decide (k < (xs.length:Int)) then (idx xs k).bind fun a=>(idx xs k).bind fun b=>(E m a b).bind fun v=>bif !v then some false else L m (k+1) else some true)
  (hE:∀ a,Tr (fun m=>E m a a) true):Tr (fun m=>L m 0) true:=by
 have key:=zaj xs (fun k zs=>Tr (fun m=>L m (k:Int)) true) ?_ ?_ 0 (Nat.zero_le _)
 ·simpa using key
 ·exact Tr.step (fun m=>by rw [h0,zad,cond_false]) Tr.val
 ·intro k x zs hk hx hd ih
  refine Tr.step (fun m=>by rw [h0,ltN hk,cond_true,zL hx,Option.bind_some,Option.bind_some,zcj]) ?_
  refine Tr.bind (hE x) ?_
  exact Tr.ff rfl ih
theorem eqBind_self (b:Bind):Tr (fun m=>zeJ m b b) true:=by
 refine Tr.eq (fun m=>by unfold zeJ;rw [decide_eq_false (fun h=>h rfl),cond_false]) (Tr.bind (eqIntS_tr _ _) ?_)
 rw [zfn]
 exact Tr.ff rfl (Tr.ff (decide_eq_false (fun h=>h rfl)) Tr.val)
theorem eqBindS_self (l:List Bind):Tr (fun m=>zeU m l l) true:=by
 refine Tr.eq (fun m=>by unfold zeU;rfl) (Tr.ff (lenE rfl) ?_)
 exact loop_self (L:=fun m k=>zcm m l l k) (E:=fun m a b=>zeJ m a b) (fun m k=>by rw [zcm]) eqBind_self
end Go.Abs
end
section
set_option linter.unusedVariables false
set_option linter.unusedSimpArgs false
namespace Go.Abs
theorem fnd_any {α:Type} {D:α→Bool} {l:List α} {k:Nat}:decide (0≤fnd D l k)=anys D l:=by
 rw [Bool.eq_iff_iff,decide_eq_true_iff,fnd_ge,anys_iff]
theorem zdO (l:List Bind) (hl:l.length≤9223372036854775807) (hf:∀ b∈l,b.fit):Tr (fun m=>zcp m l) (bvOk l):=by
 refine Tr.eq (fun m=>by unfold zcp;rfl) ?_
 have key:=zaj l (fun k zs=>Tr (fun m=>zbf m l (k:Int)) (bvF (l.take k) zs&&decide ((l.length:Int)≤60))) ?_ ?_ 0 (Nat.zero_le _)
 ·simpa [bvOk] using key
 ·exact Tr.step (fun m=>by rw [zbf,zad,cond_false]) (by rw [bvF,Bool.true_and];exact Tr.val)
 ·intro k x zs hk hx hd ih
  have hm:=List.mem_of_getElem? hx
  have hxf:=hf x hm
  rw [zfL hx] at ih
  have j2:∀ b:Bool,bindOk x=!b→Tr (fun m=>zaK m l (k:Int) x b) (bvF (l.take k) (x::zs)&&decide ((l.length:Int)≤60)):=by
   intro b hb
   rw [bvF,hb]
   cases b with
   | true=>exact Tr.step (fun m=>by rw [zaK,cond_true];rfl) Tr.val
   | false =>
     rw [Bool.not_false,Bool.true_and]
     refine Tr.step (fun m=>by rw [zaK,cond_false,sub_take (by omega),Option.bind_some,zcj]) ?_
     refine Tr.bind (v:=anys (fun c=>decide (c.name=x.name)&&same c.scopes x.scopes) (l.take k)) ?_ ?_
     ·refine Tr.eq (fun m=>by unfold zaC;rfl) (Tr.bind (v:=fnd (fun c=>decide (c.name=x.name)&&same c.scopes x.scopes) (l.take k) 0) ?_ (Tr.of fun m=>by rw [fnd_any]))
      refine Tr.eq (fun m=>by unfold zaR;rfl) ?_
      refine zgw (L:=fun m j=>zO m (l.take k) x j) (E:=fun m y=>zc4 m y x) (fun m j=>by rw [zO]) (fun y _=>?_)
      refine Tr.eq (fun m=>by unfold zc4;rfl) ?_
      cases decide (y.name=x.name) with
      | false=>exact Tr.ff rfl Tr.val
      | true=>exact Tr.tt rfl (Tr.bind (slEqual_tr _ _) Tr.val)
     ·cases anys (fun c=>decide (c.name=x.name)&&same c.scopes x.scopes) (l.take k) with
      | true=>exact Tr.tt rfl Tr.val
      | false=>exact Tr.ff rfl (by rw [Bool.not_false,Bool.true_and];exact ih)
  refine Tr.step (fun m=>by rw [zbf,ltN hk,cond_true,zL hx,Option.bind_some]) (Tr.bind (implNm_tr _ hxf.1) ?_)
  cases hn:nmOk x.name with
  | false=>exact Tr.tt rfl (j2 true (by unfold bindOk;rw [hn];rfl))
  | true =>
  refine Tr.ff rfl (Tr.bind (implSc_tr _ hxf.2) ?_)
  cases hs:scOk x.scopes with
  | false=>exact Tr.tt rfl (j2 true (by unfold bindOk;rw [hn,hs];rfl))
  | true =>
  refine Tr.ff rfl (Tr.bind (within_tr _ _ _) (j2 _ ?_))
  unfold bindOk;rw [hn,hs,Bool.not_not];rfl
theorem hasC_tr (l:List Int) (n:Int):Tr (fun m=>zcx m l n) (hasB l n):=by
 refine Tr.eq (fun m=>by unfold zcx;rfl) (Tr.bind (v:=fnd (fun y=>decide (n=y)) l 0) ?_ ?_)
 ·refine Tr.eq (fun m=>by unfold zej;rfl) ?_
  exact zgw (L:=fun m j=>zbs m l n j) (E:=fun m y=>some (decide (n=y))) (fun m j=>by rw [zbs];rfl) (fun y _=>Tr.val)
 ·have e:decide (0≤fnd (fun y=>decide (n=y)) l 0)=hasB l n:=by
   rw [fnd_any,Bool.eq_iff_iff,anys_iff,hasB,anys_iff]
   simp only [decide_eq_true_eq,eq_comm]
  rw [← e];exact Tr.val
theorem not_anys {α:Type} {D:α→Bool}:∀ {l:List α},(!anys (fun x=>!D x) l)=alls D l
 | []=>rfl
 | x::xs=>by rw [anys,alls,Bool.not_or,Bool.not_not,not_anys]
theorem implWithin_tr (a b:List Int):Tr (fun m=>zco m a b) (zhd a b):=by
 refine Tr.eq (fun m=>by unfold zco;rfl) (Tr.bind (v:=anys (fun x=>!hasB b x) a) ?_ ?_)
 ·refine Tr.eq (fun m=>by unfold zas;rfl) (Tr.bind (v:=fnd (fun x=>!hasB b x) a 0) ?_ (Tr.of fun m=>by rw [fnd_any]))
  refine Tr.eq (fun m=>by unfold zaJ;rfl) ?_
  exact zgw (L:=fun m j=>zK m a b j) (E:=fun m y=>zcB m y b) (fun m j=>by rw [zK]) (fun y _=>Tr.eq (fun m=>by unfold zcB;rfl) (Tr.bind (hasC_tr _ _) Tr.val))
 ·rw [← show (!anys (fun x=>!hasB b x) a)=zhd a b from not_anys];exact Tr.val
theorem fitting_tr (l:List Bind) (f:Form) (hb:l.length≤2 ^ 36):Tr (fun m=>zeW m l f) (fitsB l f):=by
 refine Tr.eq (fun m=>by unfold zeW;rfl) ?_
 have key:=zaj l (fun k zs=>∀ g:List Int,g.length≤k→Tr (fun m=>zbG m l f g (k:Int)) (g++fitsF f zs k)) ?_ ?_ 0 (Nat.zero_le _) [] (by simp)
 ·exact key
 ·intro g _
  refine Tr.step (fun m=>by rw [zbG,zad,cond_false]) ?_
  rw [fitsF,List.append_nil];exact Tr.val
 ·intro k x zs hk hx hd ih g hg
  refine Tr.step (fun m=>by rw [zbG,ltN hk,cond_true,zL hx,Option.bind_some]) ?_
  rw [fitsF]
  have j2:∀ b:Bool,fitB f x=b→Tr (fun m=>zcn m l f g (k:Int) b) (g++((bif fitB f x then [(k:Int)] else [])++fitsF f zs (k+1))):=by
   intro b hb
   rw [hb]
   refine Tr.step (fun m=>by rw [zcn]) ?_
   cases b with
   | true =>
     refine Tr.tt rfl (Tr.chk (decide_eq_true (by simp;omega)) ?_)
     have:=ih (g++[(k:Int)]) (by simp;omega)
     rw [List.append_assoc] at this
     exact this
   | false=>exact Tr.ff rfl (by simpa using ih g (by omega))
  unfold fitB at j2
  by_cases hn:x.name=f.name
  ·refine Tr.tt (decide_eq_true hn) (Tr.bind (implWithin_tr _ _) (j2 _ ?_))
   rw [decide_eq_true hn,Bool.true_and]
  ·refine Tr.ff (decide_eq_false hn) (j2 false ?_)
   rw [decide_eq_false hn,Bool.false_and]
theorem bound_tr (l:List Bind) (f:Form) (hb:l.length≤2 ^ 36):Tr (fun m=>zf4 m l f) (refB l f):=by
 refine Tr.eq (fun m=>by unfold zf4;rfl) (Tr.bind (fitting_tr l f hb) ?_)
 unfold refB
 have hm:∀ i∈fitsB l f,0≤i∧i < (l.length:Int):=fun i hi=>fitsB_mem hi
 generalize fitsB l f=fs at hm
 by_cases h0:fs=[]
 ·subst h0;exact Tr.tt rfl Tr.val
 have hpos:0 < fs.length:=by cases fs with
  | nil=>exact absurd rfl h0
  | cons a b=>simp
 rw [decide_eq_true (show 0 < (fs.length:Int) by omega),cond_true]
 refine Tr.ff (decide_eq_false (by omega)) ?_
 have key:=zaj fs (fun k zs=>(∀ z∈zs,z∈fs)→Tr (fun m=>zcA m l fs (k:Int)) (match firstB l fs zs with
  | some i=>(i,1)
  | none=>(0,2))) ?_ ?_ 0 (Nat.zero_le _) (fun z hz=>by simpa using hz)
 ·exact key
 ·intro _
  exact Tr.step (fun m=>by rw [zcA,zad,cond_false];rfl) Tr.val
 ·intro k x zs hk hx hd ih hz
  have hx1:=hm x (hz x (by simp))
  refine Tr.step (fun m=>by rw [zcA,ltN hk,cond_true,zL hx,Option.bind_some,zcj]) ?_
  rw [firstB]
  refine Tr.bind (v:=anys (fun j=>!zhd (bAt l j).scopes (bAt l x).scopes) fs) ?_ ?_
  ·refine Tr.eq (fun m=>by unfold zbj;rfl) (Tr.bind (v:=fnd (fun j=>!zhd (bAt l j).scopes (bAt l x).scopes) fs 0) ?_ (Tr.of fun m=>by rw [fnd_any]))
   refine Tr.eq (fun m=>by unfold zbI;rfl) ?_
   refine zgw (L:=fun m j=>z7 m fs l x j) (E:=fun m y=>zeX m y l x) (fun m j=>by rw [z7]) (fun y hy=>?_)
   have hy1:=hm y hy
   exact Tr.eq (fun m=>by unfold zeX;rw [bAt_idx hy1.1 hy1.2,Option.bind_some,bAt_idx hx1.1 hx1.2,Option.bind_some]) (Tr.bind (implWithin_tr _ _) Tr.val)
  ·have e:(!anys (fun j=>!zhd (bAt l j).scopes (bAt l x).scopes) fs)=bestB l fs x:=not_anys
   cases hbb:bestB l fs x with
   | true=>exact Tr.tt (e.trans hbb) Tr.val
   | false=>exact Tr.ff (e.trans hbb) (ih (fun z hzz=>hz z (by simp [hzz])))
end Go.Abs
end
section
set_option linter.unusedVariables false
set_option linter.unusedSimpArgs false
namespace Go.Abs
theorem isOk_mono:∀ (n:Nat) (f:Form),f.w≤n→∀ d e,d≤e→f.isOk d=true→f.isOk e=true:=by
 intro n
 induction n with
 | zero=>intro f h;have:=f.w_kids;omega
 | succ n ih =>
   intro f hf d e hde h
   have hw:=f.w_kids
   rw [Form.isOk_eq] at h ⊢
   by_cases hd:d=0
   ·rw [decide_eq_true hd] at h;cases h
   rw [decide_eq_false hd,cond_false] at h
   rw [decide_eq_false (show ¬ e=0 by omega),cond_false]
   cases h1:decide (f.kind=1) with
   | true=>rw [h1,cond_true] at h;exact h
   | false =>
   rw [h1,cond_false] at h
   rw [cond_false]
   cases h2:decide (f.kind=2) with
   | true=>rw [h2,cond_true] at h;exact h
   | false =>
   rw [h2,cond_false] at h
   rw [cond_false]
   simp only [Bool.and_eq_true] at h ⊢
   obtain ⟨a,b,c,k,g⟩:=h
   refine ⟨a,b,c,k,?_⟩
   rw [zfG] at g ⊢
   exact fun x hx=>ih x (by have:=Form.ws_mem hx;omega) (d-1) (e-1) (by omega) (g x hx)
theorem cnts_mem:∀ {l:List Form} {x:Form},x∈l→x.cnt≤Form.cnts l
 | y::ys,x,h=>by
   rw [Form.cnts]
   rcases List.mem_cons.1 h with rfl | h
   ·omega
   ·have:=cnts_mem h;omega
theorem valid_kid {f x:Form} (h:f.valid=true) (hx:x∈f.kids):x.valid=true:=by
 unfold Form.valid at h ⊢
 rw [Bool.and_eq_true,decide_eq_true_eq] at h ⊢
 have:=(zf5 h.1).2 x hx
 have h2:=cnts_mem hx
 have h3:=f.cnt_eq
 exact ⟨isOk_mono _ x (Nat.le_refl _) (40-1) 40 (by omega) this,by omega⟩
def HitD:Nat→Hit→Prop
 | 0,h=>h.depth=0∧h.one.valid=true∧h.many=[]
 | d+1,h=>h.depth=(d:Int)+1∧h.one=form0∧h.many.length≤400∧∀ x∈h.many,x.name=h.name∧HitD d x
def nameG (f:Form):Bool:=isNm f&&(!decide (f.name=dotsN)&&!decide (f.name=zgd))
theorem HitD.depth {d:Nat} {h:Hit} (hd:HitD d h):h.depth=(d:Int):=by
 cases d with
 | zero=>exact hd.1
 | succ d=>rw [hd.1];omega
theorem HitD.isOk:∀ (d:Nat) (h:Hit),d≤3→HitD d h→nameG h.name=true→h.isOk=true
 | 0,h,hd,hh,hn=>by
   obtain ⟨h1,h2,h3⟩:=hh
   unfold nameG at hn
   simp only [Bool.and_eq_true] at hn
   rw [Hit.isOk_eq,hn.1,hn.2.1,hn.2.2,h1,h2,h3];rfl
 | d+1,h,hd,hh,hn=>by
   obtain ⟨h1,h2,h3,h4⟩:=hh
   have hn0:=hn
   unfold nameG at hn
   simp only [Bool.and_eq_true] at hn
   rw [Hit.isOk_eq,hn.1,hn.2.1,hn.2.2,h1,h2,zfn,decide_eq_false (show ¬ (d:Int)+1=0 by omega),decide_eq_true (show (0:Int)≤(d:Int)+1 by omega),decide_eq_true (show (d:Int)+1≤3 by omega),decide_eq_true (show (h.many.length:Int)≤400 by omega)]
   simp only [Bool.true_and,cond_false]
   rw [zfG]
   intro x hx
   obtain ⟨e1,e2⟩:=h4 x hx
   rw [e1,zfn,e2.depth,decide_eq_true (show (d:Int)=(d:Int)+1-1 by omega),HitD.isOk d x (by omega) e2 (by rw [e1];exact hn0)]
   rfl
theorem hvF_of:∀ {l:List Hit} {ps:List Hit},(∀ x∈l,x.isOk=true)→distF (ps.map Hit.name) (l.map Hit.name)=true→hvF ps l=true
 | [],ps,_,_=>by rw [hvF]
 | x::l,ps,h,hd=>by
   rw [List.map_cons,distF,Bool.and_eq_true] at hd
   rw [hvF,Bool.and_eq_true,Bool.and_eq_true]
   refine ⟨h x (by simp),?_,hvF_of (fun y hy=>h y (by simp [hy])) (by rw [List.map_append];exact hd.2)⟩
   have h1:=hd.1
   unfold inF at h1
   rw [Bool.not_not,zfG] at h1
   rw [zfG]
   exact fun y hy=>h1 y.name (List.mem_map_of_mem hy)
end Go.Abs
end
section
set_option linter.unusedVariables false
set_option linter.unusedSimpArgs false
namespace Go.Abs
theorem hvF_apart:∀ {l ps:List Hit},hvF ps l=true→∀ h∈l,∀ p∈ps,same p.name h.name=false
 | x::xs,ps,hv,h,hh,p,hp=>by
   rw [hvF,Bool.and_eq_true,Bool.and_eq_true] at hv
   rcases List.mem_cons.1 hh with rfl | hh
   ·have:=zfG.1 hv.2.1 p hp
    simpa using this
   ·exact hvF_apart hv.2.2 h hh p (List.mem_append_left _ hp)
theorem hv_dep:∀ {l ps:List Hit},hvF ps l=true→∀ h∈l,depF (nd l) h.name=h.depth
 | x::xs,ps,hv,h,hh=>by
   have hv':=hv
   rw [hvF,Bool.and_eq_true,Bool.and_eq_true] at hv
   show depF ((x.name,x.depth)::nd xs) h.name=h.depth
   rw [depF]
   rcases List.mem_cons.1 hh with rfl | hh
   ·rw [zfn,cond_true]
   ·rw [hvF_apart hv.2.2 h hh x (by simp),cond_false]
    exact hv_dep hv.2.2 h hh
end Go.Abs
end
section
set_option linter.unusedVariables false
set_option linter.unusedSimpArgs false
namespace Go.Abs
theorem FindName_tr (l:List Bind) (f:Form) (hl:l.length≤2 ^ 36) (hb:∀ b∈l,b.fit) (hf:f.fit) (hv:bvOk l=true) (hn:isNm f=true) :
  Tr (fun m=>zdN m l f) (bif decide ((refB l f).2=1) then (bAt l (refB l f).1).id else 0,(refB l f).2):=by
 refine Tr.eq (fun m=>by unfold zdN;rfl) (Tr.bind (zdO l (by omega) hb) ?_)
 rw [hv]
 refine Tr.ff rfl (Tr.bind (zgk f hf) ?_)
 rw [hn]
 refine Tr.step (fun m=>by rw [zcF,Bool.not_true,cond_false]) (Tr.bind (bound_tr l f hl) ?_)
 rcases zgY l f with ⟨i,ha,i0,i1⟩ | ha | ha
 ·rw [ha]
  exact Tr.ff (by simp) (Tr.eq (fun m=>by rw [bAt_idx i0 i1,Option.bind_some];rfl) Tr.val)
 ·rw [ha];exact Tr.tt (by simp) Tr.val
 ·rw [ha];exact Tr.tt (by simp) Tr.val
theorem sameRef_tr (l:List Bind) (a b:Form) (hl:l.length≤2 ^ 36) (hb:∀ b∈l,b.fit) (ha:a.fit) (hbf:b.fit) :
  Tr (fun m=>zcR m l a b) (bvOk l&&(isNm a&&(isNm b&&refS l a b))):=by
 refine Tr.eq (fun m=>by unfold zcR;rfl) (Tr.bind (zdO l (by omega) hb) ?_)
 have no:Tr (fun m=>zak m l a b true) false:=Tr.step (fun m=>by rw [zak,cond_true]) Tr.val
 cases hv:bvOk l with
 | false=>exact Tr.tt rfl no
 | true =>
 refine Tr.ff rfl (Tr.bind (zgk a ha) ?_)
 cases hna:isNm a with
 | false=>exact Tr.tt rfl no
 | true =>
 refine Tr.ff rfl (Tr.bind (zgk b hbf) ?_)
 cases hnb:isNm b with
 | false=>exact no
 | true =>
 refine Tr.step (fun m=>by rw [zak,Bool.not_true,cond_false]) (Tr.bind (FindName_tr l a hl hb ha hv hna) (Tr.bind (FindName_tr l b hl hb hbf hv hnb) ?_))
 rw [Bool.true_and,Bool.true_and,Bool.true_and]
 unfold refS
 rcases zgY l a with ⟨i,ea,i0,i1⟩ | ea | ea<;>rcases zgY l b with ⟨j,eb,j0,j1⟩ | eb | eb<;>rw [ea,eb]
 ·refine Tr.tt rfl (Tr.tt rfl ?_)
  by_cases h:(bAt l i).id=(bAt l j).id
  ·exact Tr.tt (by simpa using h) (by simpa [h] using Tr.val)
  ·exact Tr.ff (by simpa using h) (Tr.ff (by simp) (by simpa [h] using Tr.val))
 ·exact Tr.tt rfl (Tr.ff (by simp) (Tr.ff (by simp) (by simpa using Tr.val)))
 ·exact Tr.tt rfl (Tr.ff (by simp) (Tr.ff (by simp) (by simpa using Tr.val)))
 ·exact Tr.ff (by simp) (Tr.ff (by simp) (by simpa using Tr.val))
 ·exact Tr.ff (by simp) (Tr.ff (by simp) (by simpa using Tr.val))
 ·exact Tr.ff (by simp) (Tr.ff (by simp) (by simpa using Tr.val))
 ·exact Tr.ff (by simp) (Tr.tt rfl (Tr.ff (by simp) (by simpa using Tr.val)))
 ·exact Tr.ff (by simp) (Tr.tt rfl (Tr.ff (by simp) (by simpa using Tr.val)))
 ·exact Tr.ff (by simp) (Tr.tt rfl (Tr.tt rfl (by simpa using Tr.val)))
def oR (o:Option (List Hit)):List Hit × Bool:=(o.getD [],o.isSome)
def oacc (acc:List Hit) (o:Option (List Hit)):Option (List Hit):=o.map (acc++·)
theorem oacc_oapp (acc:List Hit) (a b:Option (List Hit)):oacc acc (oapp a b)=match a with
  | none=>none
  | some h=>oacc (acc++h) b:=by
 cases a<;>cases b<;>simp [oacc,oapp]
theorem dotsAt_tr (l:List Form):Tr (fun m=>zd1 m l) (fnd zM l 0):=by
 refine Tr.eq (fun m=>by unfold zd1;rfl) (Tr.bind ?_ Tr.val)
 refine Tr.eq (fun m=>by unfold zaG;rfl) ?_
 exact zgw (L:=fun m i=>zG m l i) (E:=fun m y=>zc2 m y) (fun m i=>by rw [zG]) (fun y _=>Tr.eq (fun m=>by unfold zc2;rfl) (Tr.bind (named_tr _ _) Tr.val))
theorem fnd_pre {α:Type} {D:α→Bool}:∀ {xs:List α} {y:α} {zs:List α} {k:Nat},(∀ x∈xs,D x=false)→D y=true→fnd D (xs++y::zs) k=((k+xs.length:Nat):Int)
 | [],y,zs,k,_,hy=>by rw [List.nil_append,fnd,hy,cond_true];simp
 | x::xs,y,zs,k,h,hy=>by
   rw [List.cons_append,fnd,h x (by simp),cond_false,fnd_pre (fun z hz=>h z (by simp [hz])) hy,List.length_cons]
   congr 1;omega
theorem cntD_zero:∀ {l:List Form},cntD l=0→∀ x∈l,zM x=false
 | y::ys,h,x,hx=>by
   rw [cntD] at h
   rcases List.mem_cons.1 hx with rfl | hx
   ·cases hd:zM x with
    | false=>rfl
    | true=>rw [hd] at h;simp at h
   ·exact cntD_zero (by omega) x hx
theorem cntD_split:∀ {l:List Form},cntD l≤1→(∀ x∈l,zM x=false)∨∃ xs y zs,l=xs++y::zs∧(∀ x∈xs,zM x=false)∧zM y=true∧∀ x∈zs,zM x=false
 | [],_=>.inl (fun x hx=>by cases hx)
 | y::ys,h=>by
   rw [cntD] at h
   cases hd:zM y with
   | true =>
     rw [hd,cond_true] at h
     exact .inr ⟨[],y,ys,rfl,(fun x hx=>by cases hx),hd,cntD_zero (by omega)⟩
   | false =>
     rw [hd,cond_false] at h
     rcases cntD_split (l:=ys) (by omega) with h1 | ⟨xs,z,zs,rfl,h2,h3,h4⟩
     ·exact .inl (fun x hx=>by
       rcases List.mem_cons.1 hx with rfl | hx
       ·exact hd
       ·exact h1 x hx)
     ·exact .inr ⟨y::xs,z,zs,rfl,(fun x hx=>by
       rcases List.mem_cons.1 hx with rfl | hx
       ·exact hd
       ·exact h2 x hx),h3,h4⟩
theorem nextD_no {l:List Form} (h:∀ x∈l,zM x=false):zcq l=false:=by
 cases l with
 | nil=>rfl
 | cons y ys=>exact h y (by simp)
theorem fnd_no {α:Type} {D:α→Bool}:∀ {l:List α} {k:Nat},(∀ x∈l,D x=false)→fnd D l k=-1
 | [],_,_=>rfl
 | x::xs,k,h=>by rw [fnd,h x (by simp),cond_false,fnd_no (fun y hy=>h y (by simp [hy]))]
theorem drop_cons' {α:Type} {l xs:List α} {x:α} {k:Nat} (h:l.drop k=x::xs):l[k]?=some x∧l.drop (k+1)=xs∧k < l.length:=by
 have h1:l[k]?=some x:=by have:=congrArg (fun l=>l[0]?) h;simpa using this
 exact ⟨h1,by rw [← List.drop_drop,h];rfl,(List.getElem?_eq_some_iff.1 h1).1⟩
theorem zfa:∀ (vs:List (Form × Int)) (k:Nat) (rows:List (List Hit)),(rowH k vs rows).length=vs.length
 | [],_,_=>rfl
 | v::vs,k,rows=>by rw [rowH,List.length_cons,List.length_cons,zfa vs]
theorem rowH_get:∀ {vs:List (Form × Int)} {k j:Nat} {rows:List (List Hit)} {v:Form × Int},vs[j]?=some v→(rowH k vs rows)[j]?=some (Hit.mk v.1 (v.2+1) form0 (rows.map fun r=>r.getD (k+j) hit0))
 | x::xs,k,0,rows,v,h=>by simp at h;subst h;rfl
 | x::xs,k,j+1,rows,v,h=>by
   rw [rowH,List.getElem?_cons_succ,rowH_get (vs:=xs) (by simpa using h),Nat.add_assoc,Nat.add_comm 1 j]
structure MatS (bs:List Bind) (lits:List Form) (P F:Form):Prop where
 kid:∀ x∈P.kids,KidS x
 ih:∀ x∈P.kids,zM x=false→∀ f∈F.kids,Tr (fun m=>zcg m bs x lits f) (oR (x.mt bs lits f))
 wp:Form.ws P.kids≤2 ^ 17
 wf:Form.ws F.kids≤2 ^ 17
section
variable {bs:List Bind} {lits:List Form} {P F:Form}
theorem mt_length (hS:MatS bs lits P F) {x f:Form} (hx:x∈P.kids) (hd:zM x=false) {h:List Hit} (hm:x.mt bs lits f=some h):h.length≤x.w:=by
 rw [mt_len ((hS.kid x hx).pat hd) hm];exact Form.vd_len lits x 0
theorem match1_tr (hS:MatS bs lits P F) {x f:Form} (hx:x∈P.kids) (hd:zM x=false) (hf:f∈F.kids) {acc:List Hit} (ha:acc.length≤2 ^ 20) :
  Tr (fun m=>zbU m x f bs lits acc) ((x.mt bs lits f).isSome,acc++(x.mt bs lits f).getD []):=by
 refine Tr.step (fun m=>by rw [zbU]) (Tr.bind (hS.ih x hx hd f hf) ?_)
 have hw:=Form.ws_mem hx
 have h1:=hS.wp
 refine Tr.chk (decide_eq_true ?_) Tr.val
 cases hm:x.mt bs lits f with
 | none=>simp [oR];omega
 | some h =>
   have:=mt_length hS hx hd hm
   simp [oR];omega
theorem mts_one {x f:Form} {xs fs:List Form} (hd:zM x=false) (hn:zcq xs=false):Form.mts bs lits (x::xs) (f::fs)=oapp (x.mt bs lits f) (Form.mts bs lits xs fs):=by
 rw [Form.mts_eq,hd,cond_false,hn,cond_false]
theorem oR_none {acc:List Hit} {b:Option (List Hit)}:oR (oacc acc (oapp none b))=([],false):=by cases b<;>rfl
theorem oR_some {acc h:List Hit} {b:Option (List Hit)}:oR (oacc acc (oapp (some h) b))=oR (oacc (acc++h) b):=by rw [oacc_oapp]
theorem oR_nil {acc:List Hit}:oR (oacc acc (some []))=(acc,true):=by simp [oR,oacc]
theorem mts_nil:Form.mts bs lits [] []=some []:=by rw [Form.mts];rfl
theorem match_l2_tr (hS:MatS bs lits P F) (hl:P.kids.length=F.kids.length):∀ (rest:List Form) (k:Nat) (acc:List Hit),P.kids.drop k=rest→k≤P.kids.length→(∀ x∈rest,zM x=false)→acc.length+Form.ws rest≤2 ^ 20 →
  Tr (fun m=>zby m bs P lits F (k:Int) acc) (oR (oacc acc (Form.mts bs lits rest (F.kids.drop k))))
 | [],k,acc,hd,hk,hn,ha=>by
   have:k=P.kids.length:=by have:=congrArg List.length hd;rw [List.length_drop] at this;simp at this;omega
   subst this
   rw [hl,List.drop_length,mts_nil,oR_nil]
   refine Tr.step (fun m=>by rw [zby,hl,zad,cond_false]) (Tr.step (fun m=>by rw [zcz]) Tr.val)
 | x::xs,k,acc,hd,hk,hn,ha=>by
   obtain ⟨hx,hd2,hlt⟩:=drop_cons' hd
   have hdx:=hn x (by simp)
   have hy:F.kids[k]?=some F.kids[k]:=List.getElem?_eq_getElem (by omega)
   have hdr:F.kids.drop k=F.kids[k]::F.kids.drop (k+1):=List.drop_eq_getElem_cons (by omega)
   rw [Form.ws] at ha
   refine Tr.step (fun m=>by rw [zby,ltN hlt,cond_true,zL hx,Option.bind_some,zL hy,Option.bind_some]) ?_
   refine Tr.bind (match1_tr hS (List.mem_of_getElem? hx) hdx (List.mem_of_getElem? hy) (by omega)) ?_
   rw [hdr,mts_one hdx (nextD_no (fun z hz=>hn z (by simp [hz])))]
   cases hm:x.mt bs lits F.kids[k] with
   | none=>rw [oR_none];exact Tr.tt rfl Tr.val
   | some h =>
     rw [oR_some]
     have hw:=mt_length hS (List.mem_of_getElem? hx) hdx hm
     refine Tr.ff rfl (Tr.eq (fun m=>by rw [zcj];rfl) (match_l2_tr hS hl xs (k+1) (acc++h) hd2 hlt (fun z hz=>hn z (by simp [hz])) (by rw [List.length_append];omega)))
structure RowS (P F:Form) (xs:List Form) (pr dd:Form) (tail:List Form):Prop where
 eq:P.kids=xs++pr::dd::tail
 pre:∀ x∈xs,zM x=false
 row:zM pr=false
 dots:zM dd=true
 post:∀ x∈tail,zM x=false
 len:xs.length+tail.length≤F.kids.length
def RowS.many (F:Form) (xs tail:List Form):Nat:=F.kids.length-(xs.length+tail.length)
variable {xs tail:List Form} {pr dd:Form}
theorem RowS.plen (hR:RowS P F xs pr dd tail):P.kids.length=xs.length+2+tail.length:=by rw [hR.eq];simp;omega
theorem RowS.lens (hS:MatS bs lits P F) (hR:RowS P F xs pr dd tail):P.kids.length≤2 ^ 17∧F.kids.length≤2 ^ 17:=⟨Nat.le_trans (Form.ws_len _) hS.wp,Nat.le_trans (Form.ws_len _) hS.wf⟩
theorem RowS.at_pr (hR:RowS P F xs pr dd tail):P.kids[xs.length]?=some pr:=by rw [hR.eq];simp
theorem RowS.many_eq (hS:MatS bs lits P F) (hR:RowS P F xs pr dd tail):w64 ((F.kids.length:Int)-(w64 ((P.kids.length:Int)-2)))=((RowS.many F xs tail:Nat):Int):=by
 have h1:=RowS.lens hS hR
 have h2:=hR.plen
 have h3:=hR.len
 rw [zaM (n:=(P.kids.length:Int)-2) (by omega),zaM (by omega)]
 unfold RowS.many;omega
theorem RowS.row_eq (hS:MatS bs lits P F) (hR:RowS P F xs pr dd tail):w64 ((((xs.length+1:Nat):Int))-1)=((xs.length:Nat):Int):=by
 have h1:=RowS.lens hS hR
 have h2:=hR.plen
 rw [zaM (by omega)];omega
theorem match_l10_tr (hS:MatS bs lits P F) (hR:RowS P F xs pr dd tail):∀ (rest:List Form) (j:Nat) (acc:List Hit),tail.drop j=rest→j≤tail.length→acc.length+Form.ws rest≤2 ^ 20 →
  Tr (fun m=>za4 m bs P lits F ((xs.length+1:Nat):Int) ((xs.length+2+j:Nat):Int) acc) (oR (oacc acc (Form.mts bs lits rest (F.kids.drop (xs.length+RowS.many F xs tail+j)))))
 | [],j,acc,hd,hj,ha=>by
   have:j=tail.length:=by have:=congrArg List.length hd;rw [List.length_drop] at this;simp at this;omega
   subst this
   have h2:=hR.plen
   have h3:=hR.len
   have e:xs.length+RowS.many F xs tail+tail.length=F.kids.length:=by unfold RowS.many;omega
   rw [e,List.drop_length,mts_nil,oR_nil]
   exact Tr.step (fun m=>by rw [za4,← h2,zad,cond_false]) Tr.val
 | x::rest,j,acc,hd,hj,ha=>by
   obtain ⟨hx0,hd2,hlt⟩:=drop_cons' hd
   have h1:=RowS.lens hS hR
   have h2:=hR.plen
   have h3:=hR.len
   have hm:=RowS.many_eq hS hR
   have hr:=RowS.row_eq hS hR
   have hx:P.kids[xs.length+2+j]?=some x:=by
    rw [hR.eq,List.getElem?_append_right (by omega)]
    rw [show xs.length+2+j-xs.length=j+1+1 by omega,List.getElem?_cons_succ,List.getElem?_cons_succ];exact hx0
   have hdx:=hR.post x (List.mem_of_getElem? hx0)
   have e:xs.length+RowS.many F xs tail+tail.length=F.kids.length:=by unfold RowS.many;omega
   generalize hM:RowS.many F xs tail=M at *
   have hq:xs.length+M+j < F.kids.length:=by omega
   have hy:F.kids[xs.length+M+j]?=some F.kids[xs.length+M+j]:=List.getElem?_eq_getElem hq
   have hdr:F.kids.drop (xs.length+M+j)=F.kids[xs.length+M+j]::F.kids.drop (xs.length+M+j+1):=List.drop_eq_getElem_cons hq
   have hidx:w64 ((w64 ((w64 ((w64 ((w64 (((xs.length+1:Nat):Int)-1))+(w64 ((F.kids.length:Int)-(w64 ((P.kids.length:Int)-2))))))+((xs.length+2+j:Nat):Int)))-((xs.length+1:Nat):Int)))-1)=((xs.length+M+j:Nat):Int):=by
    rw [hm,hr,zaM (n:=((xs.length:Nat):Int)+(M:Int)) (by omega),zaM (n:=((xs.length:Nat):Int)+(M:Int)+((xs.length+2+j:Nat):Int)) (by omega),zaM (n:=((xs.length:Nat):Int)+(M:Int)+((xs.length+2+j:Nat):Int)-((xs.length+1:Nat):Int)) (by omega),zaM (by omega)]
    omega
   rw [Form.ws] at ha
   refine Tr.step (fun m=>by rw [za4,ltN (show xs.length+2+j < P.kids.length by omega),cond_true,zL hx,Option.bind_some,hidx,zL hy,Option.bind_some]) ?_
   refine Tr.bind (match1_tr hS (List.mem_of_getElem? hx) hdx (List.mem_of_getElem? hy) (by omega)) ?_
   have hnd:zcq rest=false:=nextD_no (fun z hz=>hR.post z (by rw [← hd2] at hz;exact List.mem_of_mem_drop hz))
   rw [hdr,mts_one hdx hnd]
   cases hmt:x.mt bs lits F.kids[xs.length+M+j] with
   | none=>rw [oR_none];exact Tr.tt rfl Tr.val
   | some h =>
     rw [oR_some]
     have hw:=mt_length hS (List.mem_of_getElem? hx) hdx hmt
     have:=match_l10_tr hS hR rest (j+1) (acc++h) hd2 hlt (by rw [List.length_append];omega)
     rw [hM] at this
     exact Tr.ff rfl (Tr.eq (fun m=>by rw [zcj];rfl) this)
end
end Go.Abs
end
