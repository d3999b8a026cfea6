/- A part of the proof: what the functions that the law calls answer, as pure values. -/
import Derived.Test.YtcebadpiebamdaaGreatKd849f26ea862
import Derived.Test.YtcebadpiebamdaaGreatK403ef3ea41a7
import Derived.Test.YtcebadpiebamdaaGreatKfd88efc704ec
import Derived.Test.YtcebadpiebamdaaGreatK331fa2d90bd9
set_option linter.unusedSimpArgs false
set_option linter.unusedVariables false
section
set_option linter.unusedVariables false
set_option linter.unusedSimpArgs false
namespace Go.Abs
theorem zpN:∀ (n:Nat) (f:aB),f.w<=n->f.w<=2 ^ 36->Tr (fun m=>oI m f) f:=by
 intro n;induction n with
 | zero=>intro f h _;have:=f.w_kids;omega
 | succ n ih =>
   intro f h hb;have hw:=f.w_kids;have hl:=aB.ws_len f.kids;refine Tr.step (fun m=>by rw [oI]) ?_;refine Tr.chk (by simp;omega) ?_;have key:=aX f.kids (fun k ys=>∀ acc:List aB,acc.length=k->Tr (fun m=>i4 m f (k:Int) acc) (aB.mk f.kind f.name f.n f.scopes (acc++ys))) ?_ ?_ 0 (Nat.zero_le _) [] rfl
   ·rw [List.drop_zero,List.nil_append] at key;obtain ⟨a,b,c,d,e⟩:=f;exact key
   ·intro acc _;refine Tr.step (fun m=>by rw [i4,aP]) ?_;rw [List.append_nil];exact Tr.val
   ·intro k x xs hk hx hd ihk acc hacc;have hmem:x∈f.kids:=List.mem_of_getElem? hx;have hxw:=aB.ws_mem hmem;refine Tr.step (fun m=>by rw [i4,ltN hk,aK hx,cQ]) ?_;refine Tr.bind (ih x (by omega) (by omega)) ?_;refine Tr.chk (by simp;omega) ?_;have:=ihk (acc++[x]) (by simp;exact hacc)
    rwa [List.append_assoc] at this
end Go.Abs
end
section
set_option linter.unusedVariables false
set_option linter.unusedSimpArgs false
namespace Go.Abs
theorem TQ.same {α:Type} {F:Nat->Option α} {v:α} (h:Tr F v):TQ F (fun r=>r=v):=⟨v,h,rfl⟩
theorem TQ.tr {α:Type} {F:Nat->Option α} {v:α} (h:TQ F (fun r=>r=v)):Tr F v:=by obtain ⟨r,h,rfl⟩:=h;exact h
structure Dr (n:Nat) (f:aB):Prop where
 w:f.w<=n
 fit:f.fit
end Go.Abs
end
section
set_option linter.unusedVariables false
set_option linter.unusedSimpArgs false
namespace Go.Abs
theorem zm6 {α β γ:Type} {xs:List α} {c:Nat} {f:α->β} {L:Nat->Int->List β->Option γ} {E:Nat->α->Option β} {fin:List β->γ}
  (h0:∀ m k acc,L (m+1) k acc=bif decide (k < (xs.length:Int)) then (idx xs k).bind fun a=>(E m a).bind fun v=>chk (decide ((acc.length+[v].length)*c<=140737488355328)) (L m (k+1) (acc++[v])) else some (fin acc))
  (hE:∀ a∈xs,Tr (fun m=>E m a) (f a)) (acc0:List β) (hb:(acc0.length+xs.length)*c<=140737488355328):Tr (fun m=>L m 0 acc0) (fin (acc0++xs.map f)):=by
 have key:=aX xs (fun k zs=>∀ acc:List β,(acc.length+zs.length)*c<=140737488355328->Tr (fun m=>L m (k:Int) acc) (fin (acc++zs.map f))) ?_ ?_ 0 (Nat.zero_le _) acc0 (by simpa using hb)
 ·simpa using key
 ·intro acc _;refine Tr.step (fun m=>by rw [h0,aP,cond_false]) ?_;rw [List.map_nil,List.append_nil];exact Tr.val
 ·intro k x zs hk hx hd ih acc hc;refine Tr.step (fun m=>by rw [h0,ltN hk,cond_true,aK hx,Option.bind_some,cQ]) ?_;refine Tr.bind (hE x (List.mem_of_getElem? hx)) ?_;have C1:(acc.length+1)*c<=140737488355328:=Nat.le_trans (Nat.mul_le_mul_right c (by simp)) hc;refine Tr.chk (decide_eq_true (by simpa using C1)) ?_;have:=ih (acc++[f x]) (by
   refine Nat.le_trans (Nat.mul_le_mul_right c ?_) hc;simp;omega)
  rwa [List.append_assoc] at this
theorem zrh (l:List Int) (h:l.length<=2 ^ 36):Tr (fun m=>iN m l) l :=
 Tr.eq (fun m=>by unfold iN;rfl) (Tr.chk (decide_eq_true (by simp;omega)) Tr.val)
theorem zoi:∀ (n:Nat) (f:aB),f.w<=n->f.w<=2 ^ 36->Tr (fun m=>bR m f) f:=by
 intro n;induction n with
 | zero=>intro f h _;have:=f.w_kids;omega
 | succ n ih =>
   intro f h hb;have hw:=f.w_kids;have hl:=aB.ws_len f.kids;refine Tr.step (fun m=>by rw [bR]) (Tr.bind (zrh _ (by omega)) ?_);have:=zm6 (xs:=f.kids) (c:=80) (f:=fun x=>x) (L:=fun m k acc=>dV m f f.scopes k acc) (E:=fun m a=>bR m a) (fin:=fun g=>aB.mk f.kind f.name f.n f.scopes g)
    (fun m k acc=>by rw [dV]) (fun a ha=>ih a (by have:=aB.ws_mem ha;omega) (by have:=aB.ws_mem ha;omega)) [] (by simp;omega)
   rw [List.map_id',List.nil_append] at this;obtain ⟨a,b,c,d,e⟩:=f;exact this
theorem u3 (f:aB) (h:f.w<=2 ^ 36):Tr (fun m=>bR m f) f:=zoi _ f (Nat.le_refl _) h
theorem zpC:∀ (n:Nat) (f:aB),f.w<=n->f.w<=2 ^ 36->Tr (fun m=>eJ m f) f:=by
 intro n;induction n with
 | zero=>intro f h _;have:=f.w_kids;omega
 | succ n ih =>
   intro f h hb;have hw:=f.w_kids;have hl:=aB.ws_len f.kids;refine Tr.step (fun m=>by rw [eJ]) (Tr.chk (decide_eq_true (by simp;omega)) (Tr.bind (v:=f.kids) (Tr.step (fun m=>by rw [kA]) ?_) ?_))
   ·have:=zm6 (xs:=f.kids) (c:=80) (f:=fun x=>x) (L:=fun m k acc=>dO m f.kids acc k) (E:=fun m a=>eJ m a) (fin:=fun g=>g)
     (fun m k acc=>by rw [dO]) (fun a ha=>ih a (by have:=aB.ws_mem ha;omega) (by have:=aB.ws_mem ha;omega)) [] (by simp;omega)
    simpa using this
   ·obtain ⟨a,b,c,d,e⟩:=f;exact Tr.val
theorem zjc (f:aB) (h:f.w<=2 ^ 36):Tr (fun m=>eJ m f) f:=zpC _ f (Nat.le_refl _) h
theorem aB.vs_w (lits:List aB) (f:aB):∀ x∈f.vs lits,x.w<=f.w:=by
 have key:∀ (n:Nat) (f:aB),f.w<=n->∀ x∈f.vs lits,x.w<=f.w:=by
  intro n;induction n with
  | zero=>intro f h;have:=f.w_kids;omega
  | succ n ih =>
    intro f h x hx;have hw:=f.w_kids;rw [aB.vs_eq] at hx;rcases List.mem_append.1 hx with hx | hx
    ·cases hv:kF lits f with
     | true=>rw [hv,cond_true,List.mem_singleton] at hx;subst hx;exact Nat.le_refl _
     | false=>rw [hv,cond_false] at hx;cases hx
    ·have k2:∀ l:List aB,aB.ws l<=n->x∈aB.kVs lits l->x.w<=aB.ws l:=by
      intro l;induction l with
      | nil=>intro _ hx;rw [aB.kVs] at hx;cases hx
      | cons y l ihl =>
        intro hl hx;rw [aB.ws] at hl ⊢;rw [aB.kVs] at hx;rcases List.mem_append.1 hx with hx | hx
        ·have:=ih y (by omega) x hx;omega
        ·have:=ihl (by omega) hx;omega
     have:=k2 f.kids (by omega) hx;omega
 exact key _ f (Nat.le_refl _)
theorem zn2 (f:aB) (lits:List aB) (hb:f.w<=2 ^ 36):Tr (fun m=>jK m [] f lits) (f.vs lits):=by
 have:=(zjV lits _ f [] (Nat.le_refl _) (by simp;omega)).1;simpa using this
theorem zlr (f:aB) (lits:List aB) (hb:f.w<=2 ^ 36):Tr (fun m=>dM m [] f lits 0) ((f.vd lits 0).map (·.2)):=by
 have:=zeL lits _ f 0 [] (Nat.le_refl _) (by omega) (by simp;omega);simpa using this
mutual
noncomputable def aB.part (x:aB):aB->Bool
 | .mk a b c d kids=>same (aB.mk a b c d kids) x||aB.parts x kids
noncomputable def aB.parts (x:aB):List aB->Bool
 | []=>false
 | y::ys=>aB.part x y||aB.parts x ys
end
theorem aB.part_eq (x f:aB):aB.part x f=(same f x||aB.parts x f.kids):=by obtain ⟨a,b,c,d,e⟩:=f;rw [aB.part];rfl
theorem zkU {x:aB}:∀ {l:List aB} {y:aB},y∈l->aB.part x y=true->aB.parts x l=true
 | z::l,y,hy,h=>by
   rw [aB.parts,Bool.or_eq_true];rcases List.mem_cons.1 hy with rfl | hy
   ·exact .inl h
   ·exact .inr (zkU hy h)
mutual
theorem aB.vs_part (lits:List aB):∀ (f x:aB),x∈f.vs lits->kF lits x=true/\aB.part x f=true
 | .mk a b c d kids,x,hx=>by
   rw [aB.part_eq];rw [aB.vs] at hx;rcases List.mem_append.1 hx with hx | hx
   ·cases hv:kF lits (.mk a b c d kids) with
    | true=>rw [hv,cond_true,List.mem_singleton] at hx;subst hx;exact ⟨hv,by rw [qG];rfl⟩
    | false=>rw [hv,cond_false] at hx;cases hx
   ·have:=aB.kVs_part lits kids x hx;exact ⟨this.1,by rw [show (aB.mk a b c d kids).kids=kids from rfl,this.2,Bool.or_true]⟩
theorem aB.kVs_part (lits:List aB):∀ (l:List aB) (x:aB),x∈aB.kVs lits l->kF lits x=true/\aB.parts x l=true
 | [],x,hx=>by rw [aB.kVs] at hx;cases hx
 | y::ys,x,hx=>by
   rw [aB.kVs] at hx;rw [aB.parts];rcases List.mem_append.1 hx with hx | hx
   ·have:=aB.vs_part lits y x hx;exact ⟨this.1,by rw [this.2];rfl⟩
   ·have:=aB.kVs_part lits ys x hx;exact ⟨this.1,by rw [this.2,Bool.or_true]⟩
end
end Go.Abs
end
section
set_option linter.unusedVariables false
set_option linter.unusedSimpArgs false
namespace Go.Abs
noncomputable def hAt (l:List Hit) (f:aB):Int:=fnd (fun x=>same x.name f) l 0
theorem zq6 (l:List Hit) (f:aB):Tr (fun m=>qK m l f) (hAt l f):=by
 refine Tr.eq (fun m=>by unfold qK;rfl) (Tr.bind ?_ Tr.val);refine Tr.eq (fun m=>by unfold d5;rfl) ?_;exact mS (xs:=l) (L:=fun m j=>aV m l f j) (E:=fun m y=>nI m y f) (fun m j=>by rw [aV]) (fun y _=>Tr.eq (fun m=>by unfold nI;rfl) (Tr.bind (j8 _ _) Tr.val))
theorem zpL (l:List Hit) (f:aB):Tr (fun m=>oH m l f) (hAt l f):=by
 refine Tr.eq (fun m=>by unfold oH;rfl) ?_;exact mS (xs:=l) (L:=fun m j=>gM m l f j) (E:=fun m y=>cY m y.name f) (fun m j=>by rw [gM]) (fun y _=>qO _ _)
theorem zmH {α:Type} {D:α->Bool}:∀ {l:List α} {k:Nat},(fnd D l k=-1/\∀ x∈l,D x=false)∨∃ i x,fnd D l k=((k+i:Nat):Int)/\l[i]?=some x/\D x=true/\∀ y∈l.take i,D y=false
 | [],k=>.inl ⟨rfl,fun x hx=>by cases hx⟩
 | z::l,k=>by
   rw [fnd];cases h:D z with
   | true=>exact .inr ⟨0,z,rfl,rfl,h,fun y hy=>by cases hy⟩
   | false =>
     rw [cond_false];rcases zmH (D:=D) (l:=l) (k:=k+1) with ⟨h1,h2⟩ | ⟨i,x,h1,h2,h3,h4⟩
     ·exact .inl ⟨h1,fun x hx=>by
       rcases List.mem_cons.1 hx with rfl | hx
       ·exact h
       ·exact h2 x hx⟩
     ·exact .inr ⟨i+1,x,by rw [h1];congr 1;omega,by simpa using h2,h3,fun y hy=>by
       rw [List.take_succ_cons] at hy;rcases List.mem_cons.1 hy with rfl | hy
       ·exact h
       ·exact h4 y hy⟩
def zdC:Hit:=Hit.mk (aB.mk 0 (⟨#[]⟩:ByteArray) 0 ([]:List Int) ([]:List aB)) 0 (aB.mk 0 (⟨#[]⟩:ByteArray) 0 ([]:List Int) ([]:List aB)) ([]:List Hit)
end Go.Abs
end
section
set_option linter.unusedVariables false
set_option linter.unusedSimpArgs false
namespace Go.Abs
def zfE {α:Type} (D:α->Bool):List α->Bool
 | []=>false
 | x::xs=>D x||zfE D xs
theorem zgV {α:Type} {D:α->Bool}:∀ {l:List α},zfE D l=true↔∃ x∈l,D x=true
 | []=>by simp [zfE]
 | x::xs=>by rw [zfE,Bool.or_eq_true,zgV];simp
theorem zqX {α:Type} {xs:List α} {D:α->Bool} {L:Nat->Int->Option Bool} {E:Nat->α->Option Bool}
  (h0:∀ m k,L (m+1) k=bif decide (k < (xs.length:Int)) then (idx xs k).bind fun a=>(E m a).bind fun v=>bif v then some true else L m (k+1) else some false)
  (hE:∀ a∈xs,Tr (fun m=>E m a) (D a)):Tr (fun m=>L m 0) (zfE D xs):=by
 have key:=aX xs (fun k zs=>Tr (fun m=>L m (k:Int)) (zfE D zs)) ?_ ?_ 0 (Nat.zero_le _)
 ·simpa using key
 ·exact Tr.step (fun m=>by rw [h0,aP,cond_false];rfl) Tr.val
 ·intro k x zs hk hx hd ih;refine Tr.step (fun m=>by rw [h0,ltN hk,cond_true,aK hx,Option.bind_some,cQ]) ?_;refine Tr.bind (hE x (List.mem_of_getElem? hx)) ?_;rw [zfE];cases h:D x with
  | true=>exact Tr.tt rfl Tr.val
  | false=>exact Tr.ff rfl (by simpa using ih)
def zql (l:List Int) (n:Int):Bool:=zfE (fun x=>decide (x=n)) l
theorem zq0 (l:List Int) (n:Int):Tr (fun m=>tN m l n) (zql l n):=by
 refine Tr.eq (fun m=>by unfold tN;rfl) ?_;exact zqX (xs:=l) (L:=fun m k=>lY m l n k) (E:=fun m a=>some (decide (a=n))) (fun m k=>by rw [lY];rfl) (fun a _=>Tr.val)
def zE (a b:List Int):Bool:=vN (fun x=>zql b x) a
theorem zdU (a b:List Int):Tr (fun m=>jG m a b) (zE a b):=by
 refine Tr.eq (fun m=>by unfold jG;rfl) ?_;have:=zm7 (xs:=a) (c:=true) (D:=fun x=>zql b x) (L:=fun m k=>eW m a b k) (E:=fun m x=>tN m b x) (fun m k=>by rw [eW]) (fun x _=>zq0 b x)
 rwa [Bool.and_true] at this
def bind0:aH:=aH.mk (⟨#[]⟩:ByteArray) [] 0
def bAt (l:List aH) (i:Int):aH:=l.getD i.toNat bind0
theorem zcN {l:List aH} {i:Int} (h0:0<=i) (h1:i < l.length):idx l i=some (bAt l i):=by
 obtain ⟨k,rfl⟩:=Int.eq_ofNat_of_zero_le h0;have hk:k < l.length:=by omega
 rw [aK (List.getElem?_eq_getElem hk)];unfold bAt;rw [Int.toNat_natCast,List.getD_eq_getElem?_getD,List.getElem?_eq_getElem hk];rfl
def zqm (f:aB) (b:aH):Bool:=decide (b.name=f.name)&&zE b.scopes f.scopes
def zfI (f:aB):List aH->Nat->List Int
 | [],_=>[]
 | b::bs,k=>(bif zqm f b then [(k:Int)] else [])++zfI f bs (k+1)
def zeu (l:List aH) (f:aB):List Int:=zfI f l 0
theorem zlf {f:aB}:∀ {l:List aH} {k:Nat} {i:Int},i∈zfI f l k->∃ j b,i=((k+j:Nat):Int)/\l[j]?=some b/\zqm f b=true
 | b::bs,k,i,h=>by
   rw [zfI] at h;rcases List.mem_append.1 h with h | h
   ·cases hb:zqm f b with
    | true=>rw [hb,cond_true,List.mem_singleton] at h;exact ⟨0,b,by simpa using h,rfl,hb⟩
    | false=>rw [hb,cond_false] at h;cases h
   ·obtain ⟨j,c,h1,h2,h3⟩:=zlf h;exact ⟨j+1,c,by rw [h1];congr 1;omega,by simpa using h2,h3⟩
theorem zhK {l:List aH} {f:aB} {i:Int} (h:i∈zeu l f):0<=i/\i < l.length:=by
 obtain ⟨j,b,h1,h2,_⟩:=zlf h;have:=(List.getElem?_eq_some_iff.1 h2).1;omega
theorem zls (l:List aH) (f:aB) (hb:l.length<=2 ^ 36):Tr (fun m=>oY m l f) (zeu l f):=by
 refine Tr.eq (fun m=>by unfold oY;rfl) ?_;have key:=aX l (fun k zs=>∀ g:List Int,g.length<=k->Tr (fun m=>d7 m l f g (k:Int)) (g++zfI f zs k)) ?_ ?_ 0 (Nat.zero_le _) [] (by simp)
 ·exact key
 ·intro g _;refine Tr.step (fun m=>by rw [d7,aP,cond_false]) ?_;rw [zfI,List.append_nil];exact Tr.val
 ·intro k x zs hk hx hd ih g hg;refine Tr.step (fun m=>by rw [d7,ltN hk,cond_true,aK hx,Option.bind_some,Option.bind_some]) ?_;rw [zfI];have j2:∀ b:Bool,zqm f x=b->Tr (fun m=>gQ m l f g (k:Int) b) (g++((bif zqm f x then [(k:Int)] else [])++zfI f zs (k+1))):=by
   intro b hb;rw [hb];refine Tr.step (fun m=>by rw [gQ]) ?_;cases b with
   | true =>
     refine Tr.tt rfl (Tr.chk (decide_eq_true (by simp;omega)) ?_);have:=ih (g++[(k:Int)]) (by simp;omega);rw [List.append_assoc] at this;exact this
   | false=>exact Tr.ff rfl (by simpa using ih g (by omega))
  unfold zqm at j2;by_cases hn:x.name=f.name
  ·refine Tr.tt (decide_eq_true hn) (Tr.bind (zdU _ _) (j2 _ ?_));rw [decide_eq_true hn,Bool.true_and]
  ·refine Tr.ff (decide_eq_false hn) (j2 false ?_);rw [decide_eq_false hn,Bool.false_and]
def zkq (l:List aH) (fits:List Int) (i:Int):Bool:=vN (fun j=>zE (bAt l j).scopes (bAt l i).scopes) fits
def zak (l:List aH) (fits:List Int):List Int->Option Int
 | []=>none
 | i::is=>bif zkq l fits i then some i else zak l fits is
def ziW (l:List aH) (f:aB):Int × Int :=
 match zak l (zeu l f) (zeu l f) with
 | some i=>(i,1)
 | none=>(0,bif decide (0 < ((zeu l f).length:Int)) then 2 else 0)
theorem zk0 (l:List aH) (f:aB) (hb:l.length<=2 ^ 36):Tr (fun m=>q9 m l f) (ziW l f):=by
 refine Tr.eq (fun m=>by unfold q9;rfl) (Tr.bind (zls l f hb) ?_);unfold ziW;have hm:∀ i∈zeu l f,0<=i/\i < (l.length:Int):=fun i hi=>zhK hi
 generalize zeu l f=fs at hm;have key:=aX fs (fun k zs=>(∀ z∈zs,z∈fs)->Tr (fun m=>iZ m l fs (k:Int)) (match zak l fs zs with
  | some i=>(i,1)
  | none=>(0,bif decide (0 < (fs.length:Int)) then 2 else 0))) ?_ ?_ 0 (Nat.zero_le _) (fun z hz=>by simpa using hz)
 ·exact key
 ·intro _;refine Tr.step (fun m=>by rw [iZ,aP,cond_false]) ?_;rw [zak];cases decide (0 < (fs.length:Int)) with
  | true=>exact Tr.tt rfl Tr.val
  | false=>exact Tr.ff rfl Tr.val
 ·intro k x zs hk hx hd ih hz;have hx1:=hm x (hz x (by simp));refine Tr.step (fun m=>by rw [iZ,ltN hk,cond_true]) ?_;rw [zak];have j2:∀ b:Bool,zkq l fs x=b->Tr (fun m=>mN m l fs (k:Int) b) (match (bif zkq l fs x then some x else zak l fs zs) with
    | some i=>(i,1)
    | none=>(0,bif decide (0 < (fs.length:Int)) then 2 else 0)):=by
   intro b hb;rw [hb];refine Tr.step (fun m=>by rw [mN,aK hx,Option.bind_some,cQ]) ?_;cases b with
   | true=>exact Tr.tt rfl Tr.val
   | false=>exact Tr.ff rfl (ih (fun z hzz=>hz z (by simp [hzz])))
  have inner:=aX fs (fun j ys=>∀ b:Bool,(b&&vN (fun j=>zE (bAt l j).scopes (bAt l x).scopes) ys)=zkq l fs x->(∀ y∈ys,y∈fs)->Tr (fun m=>iY m l fs (k:Int) b (j:Int)) (match (bif zkq l fs x then some x else zak l fs zs) with
    | some i=>(i,1)
    | none=>(0,bif decide (0 < (fs.length:Int)) then 2 else 0))) ?_ ?_ 0 (Nat.zero_le _) true (by rw [Bool.true_and,List.drop_zero];rfl) (fun z hzz=>by simpa using hzz)
  ·exact inner
  ·intro b hb _;rw [vN,Bool.and_true] at hb;exact Tr.step (fun m=>by rw [iY,aP,cond_false]) (j2 b hb.symm)
  ·intro j y ys hj hy hdy ihj b hb hys;have hy1:=hm y (hys y (by simp));refine Tr.step (fun m=>by rw [iY,ltN hj,cond_true]) ?_;rw [vN] at hb;cases b with
   | true =>
     refine Tr.tt rfl (Tr.eq (fun m=>by rw [aK hy,Option.bind_some,zcN hy1.1 hy1.2,Option.bind_some,aK hx,Option.bind_some,zcN hx1.1 hx1.2,Option.bind_some]) (Tr.bind (zdU _ _) ?_));refine Tr.step (fun m=>by rw [kW,cQ]) (ihj _ ?_ (fun z hzz=>hys z (by simp [hzz])));rw [Bool.true_and] at hb;exact hb
   | false =>
     refine Tr.ff rfl (Tr.step (fun m=>by rw [kW,cQ]) (ihj _ ?_ (fun z hzz=>hys z (by simp [hzz]))));rw [Bool.false_and] at hb ⊢;exact hb
theorem zjn {l:List aH} {fits:List Int}:∀ {is:List Int} {i:Int},zak l fits is=some i->i∈is
 | z::is,i,h=>by
   rw [zak] at h;cases hb:zkq l fits z with
   | true=>rw [hb,cond_true] at h;cases h;simp
   | false=>rw [hb,cond_false] at h;simp [zjn h]
theorem zg (l:List aH) (f:aB):(∃ i,ziW l f=(i,1)/\0<=i/\i < (l.length:Int))∨ziW l f=(0,2)∨ziW l f=(0,0):=by
 unfold ziW;cases h:zak l (zeu l f) (zeu l f) with
 | some i=>exact .inl ⟨i,rfl,zhK (zjn h)⟩
 | none=>cases decide (0 < ((zeu l f).length:Int)) with
   | true=>exact .inr (.inl rfl)
   | false=>exact .inr (.inr rfl)
def znv (l:List aH) (a b:aB):Bool :=
 decide ((ziW l a).2=(ziW l b).2)&&(!decide ((ziW l a).2=2)&&(bif decide ((ziW l a).2=0) then decide (a.name=b.name) else decide ((bAt l (ziW l a).1).id=(bAt l (ziW l b).1).id)))
theorem zpM (l:List aH) (a b:aB) (hb:l.length<=2 ^ 36):Tr (fun m=>tZ m l a b) (znv l a b):=by
 refine Tr.eq (fun m=>by unfold tZ;rfl) (Tr.bind (zk0 l a hb) (Tr.bind (zk0 l b hb) ?_));unfold znv;by_cases h:(ziW l a).2=(ziW l b).2
 case neg =>
  rw [decide_eq_false h,Bool.false_and];exact Tr.tt (by simpa using h) (Tr.step (fun m=>by rw [kU];rfl) Tr.val)
 rw [decide_eq_true h,Bool.true_and];refine Tr.ff (by simpa using h) (Tr.step (fun m=>by rw [kU]) ?_);rcases zg l a with ⟨i,ha,i0,i1⟩ | ha | ha
 ·rcases zg l b with ⟨j,B2,j0,j1⟩ | B2 | B2
  ·rw [ha,B2];exact Tr.ff rfl (Tr.ff rfl (Tr.eq (fun m=>by rw [zcN i0 i1,Option.bind_some,zcN j0 j1,Option.bind_some];rfl) Tr.val))
  ·rw [ha,B2] at h;simp at h
  ·rw [ha,B2] at h;simp at h
 ·rw [ha];exact Tr.tt rfl Tr.val
 ·rw [ha];exact Tr.ff rfl (Tr.tt rfl Tr.val)
end Go.Abs
end
section
set_option linter.unusedVariables false
set_option linter.unusedSimpArgs false
namespace Go.Abs
def rZ:Nat->List (aB × Int)->List (List Hit)->List Hit
 | _,[],_=>[]
 | k,v::vs,rows=>Hit.mk v.1 (v.2+1) mF (rows.map fun r=>r.getD k zdC)::rZ (k+1) vs rows
theorem zkP:∀ (vs:List (aB × Int)) (k:Nat) (rows:List (List Hit)),(rZ k vs rows).map Hit.name=vs.map (·.1)
 | [],k,rows=>rfl
 | v::vs,k,rows=>by rw [rZ,List.map_cons,List.map_cons,zkP vs];rfl
def zcx {α β:Type} (D:α->Option β):List α->Option (List β)
 | []=>some []
 | x::xs=>match D x with
   | none=>none
   | some y=>match zcx D xs with
     | none=>none
     | some ys=>some (y::ys)
theorem zgW {α β:Type} {D:α->Option β}:∀ {l:List α} {r:List β},zcx D l=some r->r.length=l.length
 | [],r,h=>by rw [zcx] at h;cases h;rfl
 | x::xs,r,h=>by
   rw [zcx] at h;cases hx:D x with
   | none=>simp [hx] at h
   | some y =>
     cases hs:zcx D xs with
     | none=>simp [hx,hs] at h
     | some ys=>simp [hx,hs] at h;subst h;simp [zgW hs]
theorem zdK {α β:Type} {D:α->Option β}:∀ {l:List α} {r:List β},zcx D l=some r->∀ y∈r,∃ x∈l,D x=some y
 | [],r,h,y,hy=>by rw [zcx] at h;cases h;cases hy
 | x::xs,r,h,y,hy=>by
   rw [zcx] at h;cases hx:D x with
   | none=>simp [hx] at h
   | some z =>
     cases hs:zcx D xs with
     | none=>simp [hx,hs] at h
     | some ys =>
       simp [hx,hs] at h;subst h;rcases List.mem_cons.1 hy with rfl | hy
       ·exact ⟨x,by simp,hx⟩
       ·obtain ⟨w,hw,hD⟩:=zdK hs y hy;exact ⟨w,by simp [hw],hD⟩
def zlH {α:Type}:Option (List α)->Option (List α)->Option (List α)
 | some a,some b=>some (a++b)
 | _,_=>none
mutual
noncomputable def aB.mt (bs:List aH) (lits:List aB):aB->aB->Option (List Hit)
 | .mk k nm n sc kids,f =>
   bif decide (k=1) then
    bif decide (nm=s8) then some []
    else bif inF lits (.mk k nm n sc kids) then (bif decide (f.kind=1)&&znv bs (.mk k nm n sc kids) f then some [] else none)
    else some [Hit.mk (.mk k nm n sc kids) 0 f []]
   else bif decide (k=2) then (bif same (.mk k nm n sc kids) f then some [] else none)
   else bif decide (f.kind≠3) then none else aB.mts bs lits kids f.kids
noncomputable def aB.mts (bs:List aH) (lits:List aB):List aB->List aB->Option (List Hit)
 | [],fs=>bif decide (fs.length=0) then some [] else none
 | p::ps,fs =>
   bif aN p then aB.mts bs lits ps fs
   else bif fD ps then
    bif decide (fs.length+1 < ps.length) then none
    else match zcx (fun f=>aB.mt bs lits p f) (fs.take (fs.length+1-ps.length)) with
     | none=>none
     | some rows=>zlH (some (rZ 0 (p.vd lits 0) rows)) (aB.mts bs lits ps (fs.drop (fs.length+1-ps.length)))
   else match fs with
    | []=>none
    | f::fs'=>zlH (aB.mt bs lits p f) (aB.mts bs lits ps fs')
end
theorem aB.mt_eq (bs:List aH) (lits:List aB) (p f:aB):p.mt bs lits f=bif decide (p.kind=1) then
  bif decide (p.name=s8) then some []
  else bif inF lits p then (bif decide (f.kind=1)&&znv bs p f then some [] else none)
  else some [Hit.mk p 0 f []]
  else bif decide (p.kind=2) then (bif same p f then some [] else none)
  else bif decide (f.kind≠3) then none else aB.mts bs lits p.kids f.kids:=by
 obtain ⟨a,b,c,d,e⟩:=p;rw [aB.mt];rfl
structure zkw (p:aB):Prop where
 ok:∃ d,p.isOk d=true
 shp:p.shp=true
def zko (x:aB):Prop:=(∃ d,x.isOk d=true)/\(aN x=true∨x.shp=true)
theorem oV {f:aB} {d:Nat} (h:f.isOk d=true):(f.kind≠3->f.kids=[])/\∀ x∈f.kids,x.isOk (d-1)=true:=by
 rw [aB.isOk_eq] at h;cases hd:decide (d=0) with
 | true=>rw [hd] at h;cases h
 | false =>
 rw [hd,cond_false] at h;by_cases h1:f.kind=1
 ·rw [decide_eq_true h1,cond_true] at h;simp only [Bool.and_eq_true,decide_eq_true_eq] at h;have:f.kids=[]:=List.eq_nil_of_length_eq_zero (by omega);exact ⟨fun _=>this,fun x hx=>by rw [this] at hx;cases hx⟩
 ·rw [decide_eq_false h1,cond_false] at h;by_cases h2:f.kind=2
  ·rw [decide_eq_true h2,cond_true] at h;simp only [Bool.and_eq_true,decide_eq_true_eq] at h;have:f.kids=[]:=List.eq_nil_of_length_eq_zero (by omega);exact ⟨fun _=>this,fun x hx=>by rw [this] at hx;cases hx⟩
  ·rw [decide_eq_false h2,cond_false] at h;simp only [Bool.and_eq_true,decide_eq_true_eq] at h;obtain ⟨h3,_,_,_,h4⟩:=h;exact ⟨fun hn=>absurd h3 hn,fun x hx=>oF.1 h4 x hx⟩
theorem zrK:∀ {l:List aB} {pd:Bool},aB.kP pd l=true->∀ x∈l,aN x=true∨x.shp=true
 | y::ys,pd,h,x,hx=>by
   rw [aB.kP,Bool.and_eq_true] at h;rcases List.mem_cons.1 hx with rfl | hx
   ·cases hd:aN x with
    | true=>exact .inl rfl
    | false=>have:=h.1;rw [hd,cond_false] at this;exact .inr this
   ·exact zrK h.2 x hx
theorem zkw.parts {p:aB} (h:zkw p):aN p=false/\aB.kP true p.kids=true/\qF p.kids<=1/\(∀ x∈p.kids,zko x)/\(p.kind≠3->p.kids=[]):=by
 obtain ⟨⟨d,hd⟩,hs⟩:=h;rw [aB.shp_eq,Bool.and_eq_true,Bool.and_eq_true,Bool.not_eq_true',decide_eq_true_eq] at hs;obtain ⟨k1,k2⟩:=oV hd;exact ⟨hs.1,hs.2.1,hs.2.2,fun x hx=>⟨⟨_,k2 x hx⟩,zrK hs.2.1 x hx⟩,k1⟩
theorem zko.pat {x:aB} (h:zko x) (hd:aN x=false):zkw x:=⟨h.1,by
 rcases h.2 with h | h
 ·rw [hd] at h;cases h
 ·exact h⟩
theorem zko.dots {x:aB} (h:zko x) (hd:aN x=true) (lits:List aB):x.vs lits=[]/\kF lits x=false/\x.kids=[]:=by
 obtain ⟨⟨d,h⟩,_⟩:=h;unfold aN at hd;rw [Bool.and_eq_true,decide_eq_true_eq,decide_eq_true_eq] at hd;have hk:x.kids=[]:=(oV h).1 (by omega);have hv:kF lits x=false:=by unfold kF;rw [decide_eq_true hd.1,decide_eq_true hd.2];rfl
 exact ⟨by rw [aB.vs_eq,hk,hv];rfl,hv,hk⟩
theorem zkX {α:Type} {a b:Option (List α)} {r:List α} (h:zlH a b=some r):∃ x y,a=some x/\b=some y/\r=x++y:=by
 cases a<;>cases b<;>simp [zlH] at h;exact ⟨_,_,rfl,rfl,h.symm⟩
theorem aB.mts_eq (bs:List aH) (lits:List aB) (p:aB) (ps fs:List aB):aB.mts bs lits (p::ps) fs=bif aN p then aB.mts bs lits ps fs
  else bif fD ps then
   bif decide (fs.length+1 < ps.length) then none
   else match zcx (fun f=>aB.mt bs lits p f) (fs.take (fs.length+1-ps.length)) with
    | none=>none
    | some rows=>zlH (some (rZ 0 (p.vd lits 0) rows)) (aB.mts bs lits ps (fs.drop (fs.length+1-ps.length)))
  else match fs with
   | []=>none
   | f::fs'=>zlH (aB.mt bs lits p f) (aB.mts bs lits ps fs'):=by
 cases fs<;>rw [aB.mts]
theorem zbT {bs:List aH} {lits:List aB} {p:aB} {ps fs:List aB} {h:List Hit} (hm:aB.mts bs lits (p::ps) fs=some h) :
  (aN p=true/\aB.mts bs lits ps fs=some h) ∨
  (aN p=false/\fD ps=true/\ps.length<=fs.length+1/\∃ rows h2,zcx (fun f=>p.mt bs lits f) (fs.take (fs.length+1-ps.length))=some rows/\aB.mts bs lits ps (fs.drop (fs.length+1-ps.length))=some h2/\h=rZ 0 (p.vd lits 0) rows++h2) ∨
  (aN p=false/\fD ps=false/\∃ f fs' h1 h2,fs=f::fs'/\p.mt bs lits f=some h1/\aB.mts bs lits ps fs'=some h2/\h=h1++h2):=by
 rw [aB.mts_eq] at hm;cases hd:aN p with
 | true=>rw [hd,cond_true] at hm;exact .inl ⟨rfl,hm⟩
 | false =>
 rw [hd,cond_false] at hm;cases hn:fD ps with
 | true =>
   rw [hn,cond_true] at hm;by_cases hl:fs.length+1 < ps.length
   ·rw [decide_eq_true hl] at hm;cases hm
   ·rw [decide_eq_false hl,cond_false] at hm;cases ha:zcx (fun f=>p.mt bs lits f) (fs.take (fs.length+1-ps.length)) with
    | none=>rw [ha] at hm;cases hm
    | some rows =>
      rw [ha] at hm;obtain ⟨x,y,hx,hy,hr⟩:=zkX hm;cases hx;exact .inr (.inl ⟨rfl,rfl,by omega,rows,y,rfl,hy,hr⟩)
 | false =>
   rw [hn,cond_false] at hm;cases fs with
   | nil=>cases hm
   | cons f fs' =>
     obtain ⟨x,y,hx,hy,hr⟩:=zkX hm;exact .inr (.inr ⟨rfl,rfl,f,fs',x,y,rfl,hx,hy,hr⟩)
theorem x9 {bs:List aH} {lits:List aB}:∀ {ps:List aB},(∀ x∈ps,zko x)->(∀ x∈ps,aN x=false->∀ f h,x.mt bs lits f=some h->h.map Hit.name=x.vs lits)->∀ {fs:List aB} {h:List Hit},aB.mts bs lits ps fs=some h->h.map Hit.name=aB.kVs lits ps
 | [],_,_,fs,h,hm=>by
   rw [aB.mts] at hm;cases hz:decide (fs.length=0) with
   | true=>rw [hz] at hm;cases hm;rfl
   | false=>rw [hz] at hm;cases hm
 | p::ps,hk,ih,fs,h,hm=>by
   have hk':∀ x∈ps,zko x:=fun x hx=>hk x (by simp [hx])
   have ih':∀ x∈ps,aN x=false->∀ f h,x.mt bs lits f=some h->h.map Hit.name=x.vs lits:=fun x hx=>ih x (by simp [hx])
   rw [aB.kVs];rcases zbT hm with ⟨hd,hm2⟩ | ⟨hd,hn,hl,rows,h2,ha,hm2,rfl⟩ | ⟨hd,hn,f,fs',h1,h2,rfl,hf,hm2,rfl⟩
   ·rw [((hk p (by simp)).dots hd lits).1,List.nil_append];exact x9 hk' ih' hm2
   ·rw [List.map_append,zkP,aB.vd_fst,x9 hk' ih' hm2]
   ·rw [List.map_append,ih p (by simp) hd f h1 hf,x9 hk' ih' hm2]
theorem znS (bs:List aH) (lits:List aB):∀ (n:Nat) (p:aB),p.w<=n->zkw p->∀ f h,p.mt bs lits f=some h->h.map Hit.name=p.vs lits:=by
 intro n;induction n with
 | zero=>intro p h;have:=p.w_kids;omega
 | succ n ih =>
   intro p hp hs f h hm;have hw:=p.w_kids;obtain ⟨q1,q2,q3,q4,q5⟩:=hs.parts;rw [aB.mt_eq] at hm;rw [aB.vs_eq];by_cases h1:p.kind=1
   ·rw [decide_eq_true h1,cond_true] at hm;rw [q5 (by omega),aB.kVs,List.append_nil];unfold aN at q1;rw [decide_eq_true h1,Bool.true_and] at q1;unfold kF;rw [decide_eq_true h1,q1,Bool.not_false,Bool.true_and,Bool.true_and];cases hu:decide (p.name=s8) with
    | true=>rw [hu] at hm;cases hm;rfl
    | false =>
    rw [hu,cond_false] at hm;cases hi:inF lits p with
    | true =>
      rw [hi,cond_true] at hm;cases hr:(decide (f.kind=1)&&znv bs p f) with
      | true=>rw [hr] at hm;cases hm;rfl
      | false=>rw [hr] at hm;cases hm
    | false=>rw [hi] at hm;cases hm;rfl
   ·rw [decide_eq_false h1,cond_false] at hm;have hv:kF lits p=false:=by unfold kF;rw [decide_eq_false h1];rfl
    rw [hv,cond_false,List.nil_append];by_cases h2:p.kind=2
    ·rw [decide_eq_true h2,cond_true] at hm;rw [q5 (by omega),aB.kVs];cases hr:same p f with
     | true=>rw [hr] at hm;cases hm;rfl
     | false=>rw [hr] at hm;cases hm
    ·rw [decide_eq_false h2,cond_false] at hm;cases hr:decide (f.kind≠3) with
     | true=>rw [hr] at hm;cases hm
     | false =>
       rw [hr,cond_false] at hm;exact x9 q4 (fun x hx hd=>ih x (by have:=aB.ws_mem hx;omega) ((q4 x hx).pat hd)) hm
theorem zdF {bs:List aH} {lits:List aB} {p f:aB} {h:List Hit} (hs:zkw p) (hm:p.mt bs lits f=some h):h.map Hit.name=p.vs lits:=znS bs lits _ p (Nat.le_refl _) hs f h hm
theorem zkz {bs:List aH} {lits:List aB} {p f:aB} {h:List Hit} (hs:zkw p) (hm:p.mt bs lits f=some h):h.length=(p.vd lits 0).length:=by
 have h1:=congrArg List.length (zdF hs hm);have h2:=congrArg List.length (aB.vd_fst lits p 0);rw [List.length_map] at h1 h2;omega
def zlN:List aB->Nat
 | []=>0
 | v::vs=>v.w+3+zlN vs
theorem zhP:∀ (a b:List aB),zlN (a++b)=zlN a+zlN b
 | [],b=>by rw [List.nil_append,zlN,Nat.zero_add]
 | v::a,b=>by rw [List.cons_append,zlN,zlN,zhP a b];omega
theorem zoV (lits:List aB):∀ (n:Nat) (p:aB),p.w<=n->(∃ d,p.isOk d=true)->zlN (p.vs lits)<=4*p.w:=by
 intro n;induction n with
 | zero=>intro p h;have:=p.w_kids;omega
 | succ n ih =>
   intro p hp hd;have hw:=p.w_kids;obtain ⟨d,hd⟩:=hd;obtain ⟨k1,k2⟩:=oV hd;rw [aB.vs_eq];cases hv:kF lits p with
   | true =>
     have h1:p.kind=1:=by
      unfold kF at hv;rw [Bool.and_eq_true,decide_eq_true_eq] at hv;exact hv.1
     rw [k1 (by omega),cond_true,aB.kVs,List.append_nil,zlN,zlN];omega
   | false =>
     rw [cond_false,List.nil_append];have key:∀ l:List aB,aB.ws l<=n->(∀ x∈l,∃ d,x.isOk d=true)->zlN (aB.kVs lits l)<=4*aB.ws l:=by
      intro l;induction l with
      | nil=>intro _ _;rw [aB.kVs,zlN];omega
      | cons x xs ihl =>
        intro hl hx;rw [aB.ws] at hl ⊢;rw [aB.kVs,zhP];have:=ih x (by omega) (hx x (by simp));have:=ihl (by omega) (fun y hy=>hx y (by simp [hy]));omega
     have:=key p.kids (by omega) (fun x hx=>⟨_,k2 x hx⟩);omega
def zqi (k:Nat):List (List Hit)->Nat
 | []=>0
 | r::rs=>Hit.ws (r.drop k)+zqi k rs
theorem zoJ:∀ (vs:List (aB × Int)) (k:Nat) (rows:List (List Hit)),(∀ r∈rows,r.length=k+vs.length)->Hit.ws (rZ k vs rows)<=zlN (vs.map (·.1))+zqi k rows
 | [],k,rows,_=>by rw [rZ,Hit.ws];omega
 | v::vs,k,rows,h=>by
   have ih:=zoJ vs (k+1) rows (fun r hr=>by have:=h r hr;rw [List.length_cons] at this;omega);have key:∀ rs:List (List Hit),(∀ r∈rs,k < r.length)->Hit.ws (rs.map fun r=>r.getD k zdC)+zqi (k+1) rs=zqi k rs:=by
    intro rs;induction rs with
    | nil=>intro _;rfl
    | cons r rs ihr =>
      intro hr;have:=ihr (fun r hr'=>hr r (by simp [hr']));have hk:=hr r (by simp);rw [List.map_cons,Hit.ws,zqi,zqi,List.drop_eq_getElem_cons hk,Hit.ws,List.getD_eq_getElem?_getD,List.getElem?_eq_getElem hk,Option.getD_some];omega
   have:=key rows (fun r hr=>by have:=h r hr;rw [List.length_cons] at this;omega);have f0:mF.w=1:=rfl;rw [rZ,List.map_cons,zlN,Hit.ws,Hit.w];omega
theorem zoI {bs:List aH} {lits:List aB} {p:aB} (hp:∀ f h,p.mt bs lits f=some h->Hit.ws h<=4*(p.w*f.w)):∀ {fs:List aB} {rows:List (List Hit)},zcx (fun f=>p.mt bs lits f) fs=some rows->zqi 0 rows<=4*(p.w*aB.ws fs)
 | [],rows,h=>by rw [zcx] at h;cases h;rw [zqi];omega
 | f::fs,rows,h=>by
   rw [zcx] at h;cases hf:p.mt bs lits f with
   | none=>simp [hf] at h
   | some r =>
     cases hs:zcx (fun f=>p.mt bs lits f) fs with
     | none=>simp [hf,hs] at h
     | some rs =>
       simp [hf,hs] at h;subst h;have h1:=hp f r hf;have h2:=zoI hp hs;rw [zqi,List.drop_zero,aB.ws];have e:p.w*(1+f.w+aB.ws fs)=p.w+p.w*f.w+p.w*aB.ws fs:=by rw [Nat.mul_add,Nat.mul_add,Nat.mul_one]
       omega
theorem zfK (l:List aB) (n:Nat):aB.ws (l.take n)+aB.ws (l.drop n)=aB.ws l:=by
 rw [<- aB.ws_append,List.take_append_drop]
theorem zm0 (P A W B:Nat):4*P+4*(P*W)+4*(A*(1+B))<=4*((1+P+A)*(1+(W+B))):=by
 have e:(1+P+A)*(1+(W+B))=1+W+B+(P+P*W+P*B)+(A+A*W+A*B):=by
  rw [Nat.add_mul,Nat.add_mul,Nat.mul_add P,Nat.mul_add A,Nat.mul_add P,Nat.mul_add A,Nat.mul_one,Nat.mul_one,Nat.one_mul];omega
 have e2:A*(1+B)=A+A*B:=by rw [Nat.mul_add,Nat.mul_one]
 omega
theorem zm1 (P A F B:Nat):4*(P*F)+4*(A*(1+B))<=4*((1+P+A)*(1+(1+F+B))):=by
 have e:(1+P+A)*(1+(1+F+B))=1+(1+F+B)+(P+(P+P*F+P*B))+(A+(A+A*F+A*B)):=by
  rw [Nat.add_mul,Nat.add_mul,Nat.one_mul,Nat.mul_add P 1,Nat.mul_add A 1,Nat.mul_add P,Nat.mul_add P,Nat.mul_add A,Nat.mul_add A,Nat.mul_one,Nat.mul_one]
 have e2:A*(1+B)=A+A*B:=by rw [Nat.mul_add,Nat.mul_one]
 omega
theorem Hit.ws_append:∀ (a b:List Hit),Hit.ws (a++b)=Hit.ws a+Hit.ws b
 | [],b=>by rw [List.nil_append,Hit.ws,Nat.zero_add]
 | x::a,b=>by rw [List.cons_append,Hit.ws,Hit.ws,Hit.ws_append a b];omega
theorem zgP {bs:List aH} {lits:List aB}:∀ {ps:List aB},(∀ x∈ps,zko x)->(∀ x∈ps,aN x=false->∀ f h,x.mt bs lits f=some h->Hit.ws h<=4*(x.w*f.w))->∀ {fs:List aB} {h:List Hit},aB.mts bs lits ps fs=some h->Hit.ws h<=4*(aB.ws ps*(1+aB.ws fs))
 | [],_,_,fs,h,hm=>by
   rw [aB.mts] at hm;cases hz:decide (fs.length=0) with
   | true=>rw [hz] at hm;cases hm;rw [Hit.ws];omega
   | false=>rw [hz] at hm;cases hm
 | p::ps,hk,ih,fs,h,hm=>by
   have hk':∀ x∈ps,zko x:=fun x hx=>hk x (by simp [hx])
   have ih':∀ x∈ps,aN x=false->∀ f h,x.mt bs lits f=some h->Hit.ws h<=4*(x.w*f.w):=fun x hx=>ih x (by simp [hx])
   rw [aB.ws];rcases zbT hm with ⟨hd,hm2⟩ | ⟨hd,hn,hl,rows,h2,ha,hm2,rfl⟩ | ⟨hd,hn,f,fs',h1,h2,rfl,hf,hm2,rfl⟩
   ·refine Nat.le_trans (zgP hk' ih' hm2) (Nat.mul_le_mul_left 4 (Nat.mul_le_mul_right _ (by omega)))
   ·have r1:=zgP hk' ih' hm2;have r2:=zoI (ih p (by simp) hd) ha;have r3:=zoJ (p.vd lits 0) 0 rows (fun r hr=>by
     obtain ⟨x,_,hx⟩:=zdK ha r hr;rw [Nat.zero_add];exact zkz ((hk p (by simp)).pat hd) hx)
    rw [aB.vd_fst] at r3;have r4:=zoV lits _ p (Nat.le_refl _) (hk p (by simp)).1;rw [Hit.ws_append,<- zfK fs (fs.length+1-ps.length)];have:=zm0 p.w (aB.ws ps) (aB.ws (fs.take (fs.length+1-ps.length))) (aB.ws (fs.drop (fs.length+1-ps.length)));omega
   ·have r1:=zgP hk' ih' hm2;have r2:=ih p (by simp) hd f h1 hf;have:=zm1 p.w (aB.ws ps) f.w (aB.ws fs');rw [Hit.ws_append,aB.ws];omega
theorem ztm (bs:List aH) (lits:List aB):∀ (n:Nat) (p:aB),p.w<=n->zkw p->∀ f h,p.mt bs lits f=some h->Hit.ws h<=4*(p.w*f.w):=by
 intro n;induction n with
 | zero=>intro p h;have:=p.w_kids;omega
 | succ n ih =>
   intro p hp hs f h hm;have hw:=p.w_kids;have hfw:=f.w_kids;obtain ⟨q1,q2,q3,q4,q5⟩:=hs.parts;rw [aB.mt_eq] at hm;by_cases h1:p.kind=1
   ·rw [decide_eq_true h1,cond_true] at hm;cases hu:decide (p.name=s8) with
    | true=>rw [hu] at hm;cases hm;rw [Hit.ws];omega
    | false =>
    rw [hu,cond_false] at hm;cases hi:inF lits p with
    | true =>
      rw [hi,cond_true] at hm;cases hr:(decide (f.kind=1)&&znv bs p f) with
      | true=>rw [hr] at hm;cases hm;rw [Hit.ws];omega
      | false=>rw [hr] at hm;cases hm
    | false =>
      rw [hi] at hm;cases hm;simp only [Hit.ws,Hit.w];have e1:p.w<=p.w*f.w:=Nat.le_mul_of_pos_right _ (by omega);have e2:f.w<=p.w*f.w:=Nat.le_mul_of_pos_left _ (by omega);omega
   ·rw [decide_eq_false h1,cond_false] at hm;by_cases h2:p.kind=2
    ·rw [decide_eq_true h2,cond_true] at hm;cases hr:same p f with
     | true=>rw [hr] at hm;cases hm;rw [Hit.ws];omega
     | false=>rw [hr] at hm;cases hm
    ·rw [decide_eq_false h2,cond_false] at hm;cases hr:decide (f.kind≠3) with
     | true=>rw [hr] at hm;cases hm
     | false =>
       rw [hr,cond_false] at hm;have:=zgP q4 (fun x hx hd=>ih x (by have:=aB.ws_mem hx;omega) ((q4 x hx).pat hd)) hm;exact Nat.le_trans this (Nat.mul_le_mul_left 4 (Nat.mul_le_mul (by omega) (by omega)))
theorem mt_w {bs:List aH} {lits:List aB} {p f:aB} {h:List Hit} (hs:zkw p) (hm:p.mt bs lits f=some h):Hit.ws h<=4*(p.w*f.w):=ztm bs lits _ p (Nat.le_refl _) hs f h hm
theorem Hit.fits_app:∀ {a b:List Hit},Hit.fits a->Hit.fits b->Hit.fits (a++b)
 | [],b,_,hb=>hb
 | x::a,b,ha,hb=>by rw [Hit.fits] at ha;rw [List.cons_append,Hit.fits];exact ⟨ha.1,Hit.fits_app ha.2 hb⟩
theorem Hit.fits_of_mem:∀ {l:List Hit},(∀ x∈l,x.fit)->Hit.fits l
 | [],_=>by rw [Hit.fits];trivial
 | x::l,h=>by rw [Hit.fits];exact ⟨h x (by simp),Hit.fits_of_mem (fun y hy=>h y (by simp [hy]))⟩
theorem aB.fits_of_mem:∀ {l:List aB},(∀ x∈l,x.fit)->aB.fits l
 | [],_=>by rw [aB.fits];trivial
 | x::l,h=>by rw [aB.fits];exact ⟨h x (by simp),aB.fits_of_mem (fun y hy=>h y (by simp [hy]))⟩
theorem zhI:mF.fit:=by rw [aB.fit,aB.fits];decide
theorem znc:zdC.fit:=by rw [zdC,Hit.fit,Hit.fits];exact ⟨zhI,zhI,by decide,trivial⟩
theorem aB.vs_fit (lits:List aB):∀ (n:Nat) (p:aB),p.w<=n->p.fit->∀ x∈p.vs lits,x.fit:=by
 intro n;induction n with
 | zero=>intro p h;have:=p.w_kids;omega
 | succ n ih =>
   intro p hp hf x hx;have hw:=p.w_kids;have hk:=hf.parts.2.2.2;rw [aB.vs_eq] at hx;rcases List.mem_append.1 hx with hx | hx
   ·cases hv:kF lits p with
    | true=>rw [hv,cond_true,List.mem_singleton] at hx;subst hx;exact hf
    | false=>rw [hv] at hx;cases hx
   ·have key:∀ l:List aB,aB.ws l<=n->aB.fits l->x∈aB.kVs lits l->x.fit:=by
     intro l;induction l with
     | nil=>intro _ _ hx;rw [aB.kVs] at hx;cases hx
     | cons y ys ihl =>
       intro hl hfl hx;rw [aB.ws] at hl;rw [aB.fits] at hfl;rw [aB.kVs] at hx;rcases List.mem_append.1 hx with hx | hx
       ·exact ih y (by omega) hfl.1 x hx
       ·exact ihl (by omega) hfl.2 hx
    exact key p.kids (by omega) hk hx
theorem zmW:∀ {vs:List (aB × Int)} {k:Nat} {rows:List (List Hit)},(∀ v∈vs,v.1.fit)->(∀ r∈rows,Hit.fits r)->rows.length<=9223372036854775807->Hit.fits (rZ k vs rows)
 | [],k,rows,_,_,_=>by rw [rZ,Hit.fits];trivial
 | v::vs,k,rows,hv,hr,hl=>by
   rw [rZ,Hit.fits,Hit.fit];refine ⟨⟨hv v (by simp),zhI,by rw [List.length_map];exact hl,Hit.fits_of_mem fun x hx=>?_⟩,zmW (fun w hw=>hv w (by simp [hw])) hr hl⟩;obtain ⟨r,hrm,rfl⟩:=List.mem_map.1 hx;rw [List.getD_eq_getElem?_getD];cases hk:r[k]? with
   | none=>exact znc
   | some y=>exact Hit.fits_mem (hr r hrm) (List.mem_of_getElem? hk)
theorem zbX {bs:List aH} {lits:List aB}:∀ {ps:List aB},(∀ x∈ps,∀ f h,f.fit->x.mt bs lits f=some h->Hit.fits h)->aB.fits ps->∀ {fs:List aB} {h:List Hit},fs.length<=9223372036854775807->aB.fits fs->aB.mts bs lits ps fs=some h->Hit.fits h
 | [],_,_,fs,h,_,_,hm=>by
   rw [aB.mts] at hm;cases hz:decide (fs.length=0) with
   | true=>rw [hz] at hm;cases hm;rw [Hit.fits];trivial
   | false=>rw [hz] at hm;cases hm
 | p::ps,ih,hp,fs,h,hl,hf,hm=>by
   have ih':∀ x∈ps,∀ f h,f.fit->x.mt bs lits f=some h->Hit.fits h:=fun x hx=>ih x (by simp [hx])
   rw [aB.fits] at hp;rcases zbT hm with ⟨hd,hm2⟩ | ⟨hd,hn,hl2,rows,h2,ha,hm2,rfl⟩ | ⟨hd,hn,f,fs',h1,h2,rfl,hf1,hm2,rfl⟩
   ·exact zbX ih' hp.2 hl hf hm2
   ·refine Hit.fits_app (zmW (fun v hv=>?_) (fun r hr=>?_) ?_) (zbX ih' hp.2 (by rw [List.length_drop];omega) (aB.fits_of_mem fun x hx=>aB.fits_mem hf (List.mem_of_mem_drop hx)) hm2)
    ·have:v.1∈p.vs lits:=by rw [<- aB.vd_fst lits p 0];exact List.mem_map_of_mem hv
     exact aB.vs_fit lits _ p (Nat.le_refl _) hp.1 _ this
    ·obtain ⟨x,hx,hD⟩:=zdK ha r hr;exact ih p (by simp) x r (aB.fits_mem hf (List.mem_of_mem_take hx)) hD
    ·rw [zgW ha,List.length_take];omega
   ·rw [aB.fits] at hf;exact Hit.fits_app (ih p (by simp) f h1 hf.1 hf1) (zbX ih' hp.2 (by rw [List.length_cons] at hl;omega) hf.2 hm2)
theorem zqV (bs:List aH) (lits:List aB):∀ (n:Nat) (p:aB),p.w<=n->p.fit->∀ f h,f.fit->p.mt bs lits f=some h->Hit.fits h:=by
 intro n;induction n with
 | zero=>intro p h;have:=p.w_kids;omega
 | succ n ih =>
   intro p hp hpf f h hf hm;have hw:=p.w_kids;have nil:Hit.fits []:=by rw [Hit.fits];trivial
   rw [aB.mt_eq] at hm;by_cases h1:p.kind=1
   ·rw [decide_eq_true h1,cond_true] at hm;cases hu:decide (p.name=s8) with
    | true=>rw [hu] at hm;cases hm;exact nil
    | false =>
    rw [hu,cond_false] at hm;cases hi:inF lits p with
    | true =>
      rw [hi,cond_true] at hm;cases hr:(decide (f.kind=1)&&znv bs p f) with
      | true=>rw [hr] at hm;cases hm;exact nil
      | false=>rw [hr] at hm;cases hm
    | false =>
      rw [hi] at hm;cases hm;rw [Hit.fits,Hit.fit,Hit.fits];exact ⟨⟨hpf,hf,by decide,trivial⟩,nil⟩
   ·rw [decide_eq_false h1,cond_false] at hm;by_cases h2:p.kind=2
    ·rw [decide_eq_true h2,cond_true] at hm;cases hr:same p f with
     | true=>rw [hr] at hm;cases hm;exact nil
     | false=>rw [hr] at hm;cases hm
    ·rw [decide_eq_false h2,cond_false] at hm;cases hr:decide (f.kind≠3) with
     | true=>rw [hr] at hm;cases hm
     | false =>
       rw [hr,cond_false] at hm;exact zbX (fun x hx=>ih x (by have:=aB.ws_mem hx;omega) (aB.fits_mem hpf.parts.2.2.2 hx)) hpf.parts.2.2.2 hf.parts.2.2.1 hf.parts.2.2.2 hm
theorem zrI {bs:List aH} {lits:List aB} {p f:aB} {h:List Hit} (hp:p.fit) (hf:f.fit) (hm:p.mt bs lits f=some h):Hit.fits h:=zqV bs lits _ p (Nat.le_refl _) hp f h hf hm
end Go.Abs
end
section
set_option linter.unusedVariables false
set_option linter.unusedSimpArgs false
namespace Go.Abs
mutual
theorem aB.vd_hi (lits:List aB):∀ (f:aB) (v:Nat),∀ x∈f.vd lits v,x.2<=(v:Int)+f.w
 | .mk k nm n sc kids,v,x,hx=>by
   rw [aB.vd,List.mem_append] at hx;rw [aB.w];rcases hx with hx | hx
   ·cases h:kF lits (.mk k nm n sc kids) with
    | true=>rw [h,cond_true,List.mem_singleton] at hx;subst hx;simp only;omega
    | false=>rw [h,cond_false] at hx;cases hx
   ·have:=aB.kV_hi lits kids v x hx;omega
theorem aB.kV_hi (lits:List aB):∀ (l:List aB) (v:Nat),∀ x∈aB.kV lits v l,x.2<=(v:Int)+aB.ws l
 | [],v,x,hx=>by rw [aB.kV] at hx;cases hx
 | y::ys,v,x,hx=>by
   rw [aB.kV,List.mem_append] at hx;rw [aB.ws];rcases hx with hx | hx
   ·cases h:fD ys with
    | true=>rw [h,cond_true] at hx;have:=aB.vd_hi lits y (v+1) x hx;omega
    | false=>rw [h,cond_false] at hx;have:=aB.vd_hi lits y v x hx;omega
   ·have:=aB.kV_hi lits ys v x hx;omega
end
theorem zqZ (p:aB) (lits:List aB) (rows:List (List Hit)) (hb:p.w<=2 ^ 30) (hr:rows.length<=2 ^ 30) (hl:∀ r∈rows,r.length=(p.vd lits 0).length):Tr (fun m=>vT m p lits rows) (rZ 0 (p.vd lits 0) rows):=by
 refine Tr.eq (fun m=>by unfold vT;rfl) (Tr.bind (zn2 p lits (by omega)) (Tr.bind (zlr p lits (by omega)) ?_));rw [<- aB.vd_fst lits p 0];have h0:=aB.vd_nn lits p 0;have h1:=aB.vd_hi lits p 0;have h2:=aB.vd_len lits p 0;generalize p.vd lits 0=vs at hl h0 h1 h2;have key:=aX vs (fun k zs=>∀ g:List Hit,g.length=k->Tr (fun m=>jW m rows (vs.map (·.1)) (vs.map (·.2)) g (k:Int)) (g++rZ k zs rows)) ?_ ?_ 0 (Nat.zero_le _) [] rfl
 ·exact key
 ·intro g _;refine Tr.step (fun m=>by rw [jW,List.length_map,aP,cond_false]) ?_;rw [rZ,List.append_nil];exact Tr.val
 ·intro k v zs hk hx hd ih g hg;have hx1:(vs.map (·.1))[k]?=some v.1:=by rw [List.getElem?_map,hx];rfl
  have hx2:(vs.map (·.2))[k]?=some v.2:=by rw [List.getElem?_map,hx];rfl
  have hm:=List.mem_of_getElem? hx;have v0:=h0 v hm;have v1:=h1 v hm;refine Tr.step (fun m=>by rw [jW,List.length_map,ltN hk,cond_true,aK hx1,Option.bind_some,aK hx2,Option.bind_some]) ?_;rw [rZ];have inner:=aX rows (fun j ys=>∀ a:List Hit,a.length=j->(∀ r∈ys,r∈rows)->Tr (fun m=>jV m rows (vs.map (·.1)) (vs.map (·.2)) g (k:Int) v.1 v.2 (j:Int) a) (g++Hit.mk v.1 (v.2+1) mF (a++ys.map fun r=>r.getD k zdC)::rZ (k+1) zs rows)) ?_ ?_ 0 (Nat.zero_le _) [] rfl (fun r hr=>by simpa using hr)
  ·exact inner
  ·intro a ha _;refine Tr.step (fun m=>by rw [jV,aP,cond_false,bT (n:=v.2+1) (by omega),bT (n:=(k:Int)+1) (by omega),cQ]) ?_;refine Tr.chk (decide_eq_true (by simp;omega)) ?_;have:=ih (g++[Hit.mk v.1 (v.2+1) mF a]) (by simp [hg]);rw [List.append_assoc] at this;rw [List.map_nil,List.append_nil];exact this
  ·intro j r ys hj hr2 hdr ihj a ha hys;have hrl:=hl r (hys r (by simp));have hkr:k < r.length:=by omega
   have e:r[k]?=some (r.getD k zdC):=by rw [List.getD_eq_getElem?_getD,List.getElem?_eq_getElem hkr];rfl
   refine Tr.step (fun m=>by rw [jV,ltN hj,cond_true,aK hr2,Option.bind_some,aK e,Option.bind_some,cQ]) ?_;refine Tr.chk (decide_eq_true (by simp;omega)) ?_;have:=ihj (a++[r.getD k zdC]) (by simp [ha]) (fun z hz=>hys z (by simp [hz]));rw [List.append_assoc] at this;rw [List.map_cons];exact this
def iB:List aB->Nat->Int->Int
 | [],_,r=>r
 | _::xs,k,r=>iB xs (k+1) (bif fD xs then (k:Int) else r)
theorem qM:∀ (zs:List aB) (k:Nat) (r:Int),qF zs=0->fD zs=false/\iB zs k r=r
 | [],k,r,_=>⟨rfl,rfl⟩
 | z::zs,k,r,h=>by
   rw [qF] at h;have h1:aN z=false:=by
    cases hz:aN z with
    | true=>rw [hz,cond_true] at h;omega
    | false=>rfl
   obtain ⟨n1,_⟩:=qM zs k r (by omega);obtain ⟨_,n2⟩:=qM zs (k+1) r (by omega);exact ⟨h1,by rw [iB,n1,cond_false,n2]⟩
theorem zjg:∀ (zs:List aB) (k:Nat) (r:Int),iB zs k r=r∨(k:Int)<=iB zs k r
 | [],k,r=>.inl rfl
 | z::zs,k,r=>by
   rw [iB];rcases zjg zs (k+1) (bif fD zs then (k:Int) else r) with h | h
   ·rw [h];cases fD zs with
    | true=>exact .inr (Int.le_refl _)
    | false=>exact .inl rfl
   ·exact .inr (by omega)
theorem znR {l:List aB} (h:qF l=0) (k:Nat):fD (l.drop k)=false:=by
 cases hd:l.drop k with
 | nil=>rfl
 | cons y ys =>
   have:∀ (l:List aB) (k:Nat),qF l=0->qF (l.drop k)=0:=by
    intro l;induction l with
    | nil=>intro k _;simp [qF]
    | cons z zs ih =>
      intro k hz;cases k with
      | zero=>exact hz
      | succ k=>rw [List.drop_succ_cons];rw [qF] at hz;exact ih k (by omega)
   have h2:=this l k h;rw [hd] at h2;exact (qM (y::ys) 0 0 h2).1
theorem zcR:∀ (xs:List aB) (x:aB) (j:Nat) (r:Int),qF xs<=1->r < (j:Int)->∀ k,k < (x::xs).length->(iB (x::xs) j r=((j+k:Nat):Int)↔fD ((x::xs).drop (k+1))=true)
 | [],x,j,r,_,hr,k,hk=>by
   have:k=0:=by simpa using hk
   subst this;rw [iB,iB];simp [fD];omega
 | y::ys,x,j,r,hc,hr,k,hk=>by
   rw [qF] at hc;rw [iB];cases hy:aN y with
   | true =>
     rw [hy,cond_true] at hc;have C0:qF ys=0:=by omega
     obtain ⟨n1,n2⟩:=qM ys (j+1+1) (j:Int) C0;rw [show fD (y::ys)=true from hy,cond_true,iB,n1,cond_false,n2];cases k with
     | zero=>simp [fD,hy]
     | succ k =>
       rw [List.drop_succ_cons,List.drop_succ_cons,znR C0 k];simp;omega
   | false =>
     rw [hy,cond_false] at hc;rw [show fD (y::ys)=false from hy,cond_false];cases k with
     | zero =>
       rw [List.drop_succ_cons,List.drop_zero,show fD (y::ys)=false from hy];rcases zjg (y::ys) (j+1) r with h | h
       ·rw [h];simp;omega
       ·simp;omega
     | succ k =>
       have:=zcR ys y (j+1) r (by omega) (by omega) k (by simpa using hk);rw [List.drop_succ_cons,<- this];rw [show j+1+k=j+(k+1) by omega]
theorem zmh:∀ (ps:List aB),qF ps<=1->aN (ps.headD mF)=false->(iB ps 0 (-1) < 0↔qF ps=0)
 | [],_,_=>by simp [iB,qF]
 | x::xs,hc,hx=>by
   rw [List.headD_cons] at hx;rw [qF,hx,cond_false,Nat.zero_add] at hc ⊢;constructor
   ·intro h;by_cases h0:qF xs=0
    ·exact h0
    ·exfalso
     -- the dots stand somewhere
     have:∀ (l:List aB),qF l≠0->∃ k,k < l.length/\fD (l.drop k)=true:=by
      intro l;induction l with
      | nil=>intro h;exact absurd rfl h
      | cons z zs ih =>
        intro h;cases hz:aN z with
        | true=>exact ⟨0,by simp,hz⟩
        | false =>
          rw [qF,hz,cond_false,Nat.zero_add] at h;obtain ⟨k,k1,k2⟩:=ih h;exact ⟨k+1,by simpa using k1,by rw [List.drop_succ_cons];exact k2⟩
     obtain ⟨k,k1,k2⟩:=this xs h0;have:=(zcR xs x 0 (-1) hc (by omega) k (by simp;omega)).2 (by rw [List.drop_succ_cons];exact k2);omega
   ·intro h0;obtain ⟨n1,n2⟩:=qM xs 1 (-1) h0;rw [iB,n1,cond_false,n2];omega
theorem znZ (bs:List aH) (lits:List aB) (fs:List aB) (ps:List aB) (hl:ps.length<=2 ^ 40) {Q:List Hit × Bool->Prop} (hj:TQ (fun m=>mM m bs ps lits fs (iB ps 0 (-1))) Q):TQ (fun m=>eG m bs ps lits fs (-1) 0) Q:=by
 cases hp:ps with
 | nil =>
   subst hp;exact TQ.step (fun m=>by rw [eG,bT (by omega)];rfl) hj
 | cons x xs =>
   have key:∀ (zs:List aB) (k:Nat) (z:aB) (r:Int),ps.drop k=z::zs->k < ps.length->iB (z::zs) k r=iB ps 0 (-1)->TQ (fun m=>eG m bs ps lits fs r (k:Int)) Q:=by
    intro zs;induction zs with
    | nil =>
      intro k z r hd hk he;have hlen:ps.length=k+1:=by have:=congrArg List.length hd;rw [List.length_drop] at this;simp at this;omega
      refine TQ.step (fun m=>by rw [eG,bT (by omega),hlen,cQ,aP,cond_false]) ?_;rw [iB,iB,show fD []=false from rfl,cond_false] at he;rw [he];exact hj
    | cons y ys ih =>
      intro k z r hd hk he;have hd2:ps.drop (k+1)=y::ys:=by rw [<- List.drop_drop,hd];rfl
      have hlen:k+1 < ps.length:=by
       have:=congrArg List.length hd2;rw [List.length_drop] at this;simp at this;omega
      have hy:ps[k+1]?=some y:=by
       have:=congrArg (fun l=>l[0]?) hd2;simpa using this
      refine TQ.step (fun m=>by rw [eG,bT (by omega),cQ,ltN hlen,cond_true,aK hy,Option.bind_some]) (TQ.ev (oU y) ?_);rw [iB] at he;cases hdy:aN y with
      | true =>
        rw [show fD (y::ys)=true from hdy,cond_true] at he;exact TQ.cond (fun _=>ih (k+1) y _ hd2 hlen he) (fun h=>by cases h)
      | false =>
        rw [show fD (y::ys)=false from hdy,cond_false] at he;exact TQ.cond (fun h=>by cases h) (fun _=>ih (k+1) y _ hd2 hlen he)
   have:=key xs 0 x (-1) (by rw [hp];rfl) (by rw [hp];simp) (by rw [<- hp]);rw [hp] at this;exact this
theorem zcH {bs:List aH} {lits:List aB}:∀ {ps fs:List aB} {h:List Hit},aB.mts bs lits ps fs=some h->(qF ps=0->ps.length=fs.length)/\(qF ps=1->fD ps=true->ps.length=fs.length+1)/\(qF ps=1->fD ps=false->ps.length<=fs.length+2)
 | [],fs,h,hm=>by
   rw [aB.mts] at hm;cases hz:decide (fs.length=0) with
   | true=>exact ⟨fun _=>by simpa using (of_decide_eq_true hz).symm,fun h=>by simp [qF] at h,fun h=>by simp [qF] at h⟩
   | false=>rw [hz] at hm;cases hm
 | p::ps,fs,h,hm=>by
   rw [qF];rcases zbT hm with ⟨hd,hm2⟩ | ⟨hd,hn,hl,rows,h2,ha,hm2,rfl⟩ | ⟨hd,hn,f,fs',h1,h2,rfl,hf,hm2,rfl⟩
   ·obtain ⟨a,b,c⟩:=zcH hm2;rw [hd,cond_true];refine ⟨fun h=>by omega,fun h _=>?_,fun h hn=>?_⟩
    ·have:=a (by omega);rw [List.length_cons];omega
    ·have:=a (by omega);rw [List.length_cons];omega
   ·obtain ⟨a,b,c⟩:=zcH hm2;rw [hd,cond_false,Nat.zero_add];refine ⟨fun h=>?_,fun _ h=>?_,fun h _=>?_⟩
    ·rw [(qM ps 0 0 h).1] at hn;cases hn
    ·rw [show fD (p::ps)=aN p from rfl,hd] at h;cases h
    ·rw [List.length_cons];omega
   ·obtain ⟨a,b,c⟩:=zcH hm2;rw [hd,cond_false,Nat.zero_add];refine ⟨fun h=>?_,fun _ h=>?_,fun h _=>?_⟩
    ·have:=a h;simp only [List.length_cons];omega
    ·rw [show fD (p::ps)=aN p from rfl,hd] at h;cases h
    ·have:=c h hn;simp only [List.length_cons];omega
def MR (o:Option (List Hit)) (out:List Hit) (r:List Hit × Bool):Prop:=r.2=o.isSome/\∀ h,o=some h->r.1=out++h
theorem MR.none {out:List Hit} {x:List Hit}:MR none out (x,false):=⟨rfl,fun h hh=>by cases hh⟩
theorem MR.app {a b:Option (List Hit)} {h1 out:List Hit} {r:List Hit × Bool} (ha:a=some h1) (h:MR b (out++h1) r):MR (zlH a b) out r:=by
 subst ha;cases b with
 | none=>exact ⟨h.1,fun x hx=>by simp [zlH] at hx⟩
 | some h2 =>
   refine ⟨h.1,fun x hx=>?_⟩;simp [zlH] at hx;subst hx;rw [h.2 h2 rfl,List.append_assoc]
theorem rowAt {ps:List aB} (hc:qF ps<=1) {k:Nat} (hk:k < ps.length):iB ps 0 (-1)=(k:Int)↔fD (ps.drop (k+1))=true:=by
 cases ps with
 | nil=>simp at hk
 | cons x xs =>
   rw [qF] at hc;have:=zcR xs x 0 (-1) (by omega) (by omega) k hk;rw [Nat.zero_add] at this;exact this
structure zr7 (bs:List aH) (lits ps fs:List aB):Prop where
 kid:∀ x∈ps,zko x
 kp:aB.kP true ps=true
 cnt:qF ps<=1
 lp:ps.length<=2 ^ 30
 lf:fs.length<=2 ^ 30
 wp:aB.ws ps<=2 ^ 30
 ih:∀ x∈ps,aN x=false->∀ f∈fs,TQ (fun m=>gG m bs x lits f) (MR (x.mt bs lits f) [])
theorem zo4 {bs:List aH} {lits ps fs:List aB} (hS:zr7 bs lits ps fs) {x:aB} {k:Nat} (hx:ps[k]?=some x) (hd:aN x=false) {row:Int} {out:List Hit} {Q:List Hit × Bool->Prop} :
  ∀ (ys:List aB) (at_:Nat) (rows:List (List Hit)),(∃ rest,fs.drop at_=ys++rest)->rows.length<=at_->(∀ rs,zcx (fun f=>x.mt bs lits f) ys=some rs->TQ (fun m=>mL m bs ps lits fs row (k:Int) out ((at_+ys.length:Nat):Int) (rows++rs)) Q)->(zcx (fun f=>x.mt bs lits f) ys=none->Q (out,false)) ->
    TQ (fun m=>iX m bs ps lits fs row (k:Int) out (at_:Int) rows (ys.length:Int)) Q
 | [],at_,rows,_,_,h1,_=>by
   have:=h1 [] rfl;rw [List.length_nil,Nat.add_zero,List.append_nil] at this;exact TQ.step (fun m=>by rw [iX];rfl) this
 | y::ys,at_,rows,hp,hr,h1,h2=>by
   obtain ⟨rest,hp⟩:=hp;have hlt:at_ < fs.length:=by
    have:=congrArg List.length hp;rw [List.length_drop] at this;simp at this;omega
   have hy:fs[at_]?=some y:=by
    have:=congrArg (fun l=>l[0]?) hp;simpa using this
   have hlf:=hS.lf;have hp2:fs.drop (at_+1)=ys++rest:=by rw [<- List.drop_drop,hp];rfl
   refine TQ.step (fun m=>by rw [iX,show decide ((0:Int) < ((y::ys).length:Int))=true by simp,cond_true,aK hx,Option.bind_some,aK hy,Option.bind_some]) ?_;refine TQ.bind (hS.ih x (List.mem_of_getElem? hx) hd y (List.mem_of_getElem? hy)) (fun r hr2=>?_);obtain ⟨r1,r2⟩:=hr2;cases hm:x.mt bs lits y with
   | none =>
     rw [hm] at r1;rw [r1];exact TQ.cond (fun _=>TQ.val (h2 (by rw [zcx,hm]))) (fun h=>by cases h)
   | some h =>
     rw [hm] at r1;rw [r1];have rr:=r2 h hm;rw [List.nil_append] at rr;refine TQ.cond (fun h=>by cases h) (fun _=>?_);refine TQ.chk (decide_eq_true (by simp;omega)) ?_;rw [rr];have:=zo4 hS hx hd (row:=row) (out:=out) (Q:=Q) ys (at_+1) (rows++[h]) ⟨rest,hp2⟩ (by simp;omega) (fun rs hrs=>by
      have:=h1 (h::rs) (by rw [zcx,hm];simp only;rw [hrs]);rw [List.append_assoc];rw [List.length_cons] at this;rw [show at_+1+ys.length=at_+(ys.length+1) by omega];exact this) (fun hn=>h2 (by rw [zcx,hm];simp only;rw [hn]))
     have hyl:ys.length<=fs.length:=by
      have:=congrArg List.length hp;rw [List.length_drop] at this;simp at this;omega
     refine TQ.eq (fun m=>by rw [bT (by omega),bT (by simp;omega),cQ,show (((y::ys).length:Int)-1)=(ys.length:Int) by simp]) this
theorem zmF {bs:List aH} {lits ps fs:List aB} (hS:zr7 bs lits ps fs):∀ (rest:List aB) (k:Nat) (out:List Hit) (at_:Nat),ps.drop k=rest->at_<=fs.length ->
  ((qF rest=0/\rest.length=fs.length-at_)∨(qF rest=1/\fD rest=true/\rest.length=fs.length-at_+1)∨(qF rest=1/\fD rest=false/\rest.length<=fs.length-at_+2/\at_=k)) ->
  out.length+4*(aB.ws rest*(1+aB.ws (fs.drop at_)))<=2 ^ 37 ->
  TQ (fun m=>fP m bs ps lits fs (iB ps 0 (-1)) (k:Int) out (at_:Int)) (MR (aB.mts bs lits rest (fs.drop at_)) out)
 | [],k,out,at_,hd,hat,hl,_=>by
   have hk:¬ k < ps.length:=by have:=congrArg List.length hd;rw [List.length_drop] at this;simp at this;omega
   have hz:(fs.drop at_).length=0:=by
    rw [List.length_drop];rcases hl with ⟨_,h⟩ | ⟨h,_⟩ | ⟨h,_⟩
    ·simpa using h.symm
    ·simp [qF] at h
    ·simp [qF] at h
   refine TQ.step (fun m=>by rw [fP,geN hk,cond_false]) (TQ.val ?_);rw [aB.mts,decide_eq_true hz];exact ⟨rfl,fun h hh=>by cases hh;simp⟩
 | x::xs,k,out,at_,hd,hat,hl,hw=>by
   have hk:k < ps.length:=by have:=congrArg List.length hd;rw [List.length_drop] at this;simp at this;omega
   have hx:ps[k]?=some x:=by
    have:=congrArg (fun l=>l[0]?) hd;simpa using this
   have hm:=List.mem_of_getElem? hx;have hd2:ps.drop (k+1)=xs:=by rw [<- List.drop_drop,hd];rfl
   have hlp:=hS.lp;have hlf:=hS.lf;rw [aB.ws] at hw;refine TQ.step (fun m=>by rw [fP,ltN hk,cond_true,aK hx,Option.bind_some,Option.bind_some]) (TQ.ev (oU x) ?_);rw [aB.mts_eq];rw [qF] at hl;cases hdx:aN x with
   | true =>
     rw [hdx,cond_true] at hl;refine TQ.cond (fun _=>?_) (fun h=>by cases h);rw [cQ,cond_true];refine zmF hS xs (k+1) out at_ hd2 hat ?_ (Nat.le_trans (Nat.add_le_add_left (Nat.mul_le_mul_left 4 (Nat.mul_le_mul_right _ (by omega))) _) hw);rw [List.length_cons] at hl;rcases hl with ⟨h,_⟩ | ⟨h,_,h3⟩ | ⟨_,h,_⟩
     ·omega
     ·exact .inl ⟨by omega,by omega⟩
     ·rw [show fD (x::xs)=aN x from rfl,hdx] at h;cases h
   | false =>
     rw [hdx,cond_false,Nat.zero_add] at hl;have hnx:fD (x::xs)=false:=hdx;refine TQ.cond (fun h=>by cases h) (fun _=>?_);rw [cond_false];have hrow:=rowAt hS.cnt hk;rw [hd2] at hrow;cases hn:fD xs with
     | false =>
       rw [hn] at hrow;have hne:¬ iB ps 0 (-1)=(k:Int):=fun h=>by have:=hrow.1 h;cases this
       rw [cond_false]
       -- a form is left
       have hlt:at_ < fs.length:=by
        rw [List.length_cons] at hl;rcases hl with ⟨_,h⟩ | ⟨_,h,_⟩ | ⟨h1,_,h3,_⟩
        ·omega
        ·rw [hnx] at h;cases h
        ·have:2<=xs.length:=by
          cases xs with
          | nil=>simp [qF] at h1
          | cons y ys =>
            cases ys with
            | nil =>
              rw [qF,qF,show aN y=false from hn] at h1;cases h1
            | cons z zs=>simp
         omega
       have hy:fs[at_]?=some fs[at_]:=List.getElem?_eq_getElem hlt;have hdr:fs.drop at_=fs[at_]::fs.drop (at_+1):=List.drop_eq_getElem_cons hlt;rw [hdr];simp only;rw [hdr,aB.ws] at hw;refine TQ.cond (fun _=>?_) (fun h=>absurd (fun e:(k:Int)=iB ps 0 (-1)=>hne e.symm) (by simpa using h));refine TQ.eq (fun m=>by rw [aK hy,Option.bind_some]) ?_;refine TQ.bind (hS.ih x hm hdx _ (List.mem_of_getElem? hy)) (fun r hr=>?_);obtain ⟨r1,r2⟩:=hr;cases hmt:x.mt bs lits fs[at_] with
       | none =>
         rw [hmt] at r1;rw [r1];exact TQ.cond (fun _=>TQ.val MR.none) (fun h=>by cases h)
       | some h1 =>
         rw [hmt] at r1;rw [r1];have rr:=r2 h1 hmt;rw [List.nil_append] at rr;have hw1:=mt_w ((hS.kid x hm).pat hdx) hmt;have hpr:=zm1 x.w (aB.ws xs) fs[at_].w (aB.ws (fs.drop (at_+1)));have hlh:=Hit.ws_len h1;refine TQ.cond (fun h=>by cases h) (fun _=>?_);rw [rr];refine TQ.chk (decide_eq_true (by omega)) ?_;refine TQ.mono (TQ.eq (fun m=>by rw [cQ,bT (by omega),cQ]) (zmF hS xs (k+1) (out++h1) (at_+1) hd2 (by omega) ?_ (by rw [List.length_append];omega))) (fun r hr=>MR.app rfl hr);rw [List.length_cons] at hl;rcases hl with ⟨h,h2⟩ | ⟨_,h,_⟩ | ⟨h1,_,h3,h4⟩
         ·exact .inl ⟨h,by omega⟩
         ·rw [hnx] at h;cases h
         ·exact .inr (.inr ⟨h1,hn,by omega,by omega⟩)
     | true =>
       rw [hn] at hrow;have he:iB ps 0 (-1)=(k:Int):=hrow.2 rfl;rw [cond_true];obtain ⟨C1,C3,C4⟩:qF xs=1/\xs.length+1<=fs.length-at_+2/\at_=k:=by
        rw [List.length_cons] at hl;rcases hl with ⟨h,_⟩ | ⟨_,h,_⟩ | ⟨h1,_,h3,h4⟩
        ·rw [(qM xs 0 0 h).1] at hn;cases hn
        ·rw [hnx] at h;cases h
        ·exact ⟨h1,h3,h4⟩
       have hx1:1<=xs.length:=by
        cases xs with
        | nil=>simp [qF] at C1
        | cons y ys=>simp
       have hdl:(fs.drop at_).length=fs.length-at_:=List.length_drop;have hpl:ps.length=k+1+xs.length:=by
        have:=congrArg List.length hd;rw [List.length_drop] at this;simp at this;omega
       rw [hdl,decide_eq_false (show ¬ fs.length-at_+1 < xs.length by omega),cond_false];refine TQ.cond (fun h=>absurd he.symm (by simpa using h)) (fun _=>?_);generalize hN:fs.length-at_+1-xs.length=N;have hNl:((fs.drop at_).take N).length=N:=by rw [List.length_take,hdl];omega
       have hn64:w64 ((fs.length:Int)-(w64 ((ps.length:Int)-2)))=((((fs.drop at_).take N).length:Nat):Int):=by
        rw [bT (n:=(ps.length:Int)-2) (by omega),bT (by omega),hNl];omega
       refine TQ.eq (fun m=>by rw [hn64]) (zo4 hS hx hdx ((fs.drop at_).take N) at_ [] ⟨(fs.drop at_).drop N,(List.take_append_drop _ _).symm⟩ (by simp) (fun rows ha=>?_) (fun ha=>by rw [ha];exact MR.none));rw [ha,hNl,List.nil_append];have hlen:∀ r∈rows,r.length=(x.vd lits 0).length:=fun r hr=>by
        obtain ⟨f,_,hf⟩:=zdK ha r hr;exact zkz ((hS.kid x hm).pat hdx) hf
       have hrl:rows.length=N:=by rw [zgW ha,hNl]
       have hxw:=aB.ws_mem hm;have hwp:=hS.wp;refine TQ.step (fun m=>by rw [mL,aK hx,Option.bind_some]) (TQ.ev (zqZ x lits rows (by omega) (by omega) hlen) ?_);have r2:=zoI (fun f h hf=>mt_w ((hS.kid x hm).pat hdx) hf) ha;have r3:=zoJ (x.vd lits 0) 0 rows (fun r hr=>by rw [Nat.zero_add];exact hlen r hr);rw [aB.vd_fst] at r3;have r4:=zoV lits _ x (Nat.le_refl _) (hS.kid x hm).1;have hpr:=zm0 x.w (aB.ws xs) (aB.ws ((fs.drop at_).take N)) (aB.ws ((fs.drop at_).drop N));rw [zfK] at hpr;have hlh:=Hit.ws_len (rZ 0 (x.vd lits 0) rows);rw [List.drop_drop] at hpr;refine TQ.chk (decide_eq_true (by omega)) ?_;refine TQ.mono (TQ.eq (fun m=>by rw [cQ]) (zmF hS xs (k+1) (out++rZ 0 (x.vd lits 0) rows) (at_+N) hd2 (by omega) (.inr (.inl ⟨C1,hn,by omega⟩)) (by rw [List.length_append];omega))) (fun r hr=>?_);simp only;rw [List.drop_drop];exact MR.app rfl hr
theorem zpK {bs:List aH} {lits ps fs:List aB} (hS:zr7 bs lits ps fs) (hw:4*(aB.ws ps*(1+aB.ws fs))<=2 ^ 37):TQ (fun m=>q8 m bs ps lits fs) (MR (aB.mts bs lits ps fs) []):=by
 have hlp:=hS.lp;have hlf:=hS.lf;have hc:=hS.cnt;have hhead:aN (ps.headD mF)=false:=by
  have:=hS.kp;cases ps with
  | nil=>rfl
  | cons x xs =>
    rw [aB.kP,Bool.and_eq_true] at this;rw [List.headD_cons];cases hd:aN x with
    | true=>rw [hd] at this;cases this.1
    | false=>rfl
 have hnd:fD ps=false:=by
  cases ps with
  | nil=>rfl
  | cons x xs=>exact hhead
 refine TQ.step (fun m=>by rw [q8]) (znZ bs lits fs ps (by omega) (TQ.step (fun m=>by rw [mM]) ?_));have hneg:=zmh ps hc hhead;have l4:((qF ps=0/\ps.length=fs.length-0)∨(qF ps=1/\fD ps=true/\ps.length=fs.length-0+1)∨(qF ps=1/\fD ps=false/\ps.length<=fs.length-0+2/\0=0))->TQ (fun m=>gL m bs ps lits fs (iB ps 0 (-1))) (MR (aB.mts bs lits ps fs) []):=fun h=>by
  have:=zmF hS ps 0 [] 0 (by rw [List.drop_zero]) (Nat.zero_le _) h (by rw [List.drop_zero];simpa using hw);rw [List.drop_zero] at this;exact TQ.step (fun m=>by rw [gL];rfl) this
 have no:(∀ h,aB.mts bs lits ps fs≠some h)->TQ (fun _=>some (([]:List Hit),false)) (MR (aB.mts bs lits ps fs) []):=fun h=>by
  cases hm:aB.mts bs lits ps fs with
  | none=>exact TQ.val MR.none
  | some x=>exact absurd hm (h x)
 refine TQ.cond (fun h=>?_) (fun h=>?_)
 ·have hneg0:iB ps 0 (-1) < 0:=by simpa using h
  have h0:=hneg.1 hneg0;refine TQ.cond (fun h2=>no fun x hx=>?_) (fun h2=>TQ.cond (fun h3=>?_) (fun _=>l4 (.inl ⟨h0,?_⟩)))
  ·have:=(zcH hx).1 h0;rw [this] at h2;simp at h2
  ·have h3:0<=iB ps 0 (-1):=by simpa using h3
   omega
  ·have:(ps.length:Int)=(fs.length:Int):=by simpa using h2
   omega
 ·have hnn:¬ iB ps 0 (-1) < 0:=by simpa using h
  have h1:qF ps=1:=by
   by_cases h0:qF ps=0
   ·exact absurd (hneg.2 h0) hnn
   ·omega
  refine TQ.cond (fun _=>TQ.cond (fun h2=>no fun x hx=>?_) (fun h2=>l4 (.inr (.inr ⟨h1,hnd,?_,rfl⟩)))) (fun h3=>?_)
  ·have:=(zcH hx).2.2 h1 hnd;rw [bT (by omega)] at h2;have h2:=of_decide_eq_true h2;omega
  ·rw [bT (by omega)] at h2;have h2:=of_decide_eq_false h2;omega
  ·have h3:=of_decide_eq_false h3;omega
theorem zkZ (bs:List aH) (lits:List aB) (hbs:bs.length<=2 ^ 36):∀ (n:Nat) (p:aB),p.w<=n->zkw p->p.w<=2 ^ 17->∀ f:aB,f.w<=2 ^ 17->TQ (fun m=>gG m bs p lits f) (MR (p.mt bs lits f) []):=by
 intro n;induction n with
 | zero=>intro p h;have:=p.w_kids;omega
 | succ n ih =>
   intro p hp hs hpb f hfb;have hw:=p.w_kids;have hfw:=f.w_kids;obtain ⟨q1,q2,q3,q4,q5⟩:=hs.parts;refine TQ.step (fun m=>by rw [gG]) ?_;rw [aB.mt_eq];have nil:∀ b:Bool,MR (bif b then some [] else none) [] (([]:List Hit),b):=fun b=>by
    cases b with
    | true=>exact ⟨rfl,fun h hh=>by cases hh;rfl⟩
    | false=>exact MR.none
   refine TQ.cond (fun h1=>?_) (fun h1=>?_)
   ·rw [h1,cond_true];refine TQ.cond (fun h2=>?_) (fun h2=>?_)
    ·rw [show decide (p.name=s8)=true from h2,cond_true];exact TQ.val (nil true)
    ·rw [show decide (p.name=s8)=false from h2,cond_false];refine TQ.ev (zjH _ _) ?_;cases inF lits p with
     | true =>
       refine TQ.cond (fun _=>?_) (fun h=>by cases h);rw [cond_true];have j1:∀ b:Bool,TQ (fun m=>jB m b) (MR (bif b then some [] else none) []):=fun b=>TQ.step (fun m=>by rw [jB]) (TQ.val (nil b))
       refine TQ.cond (fun h3=>?_) (fun h3=>?_)
       ·rw [h3,Bool.true_and];exact TQ.ev (zpM bs p f hbs) (j1 _)
       ·rw [h3,Bool.false_and];exact j1 false
     | false =>
       refine TQ.cond (fun h=>by cases h) (fun _=>?_);rw [cond_false];exact TQ.chk (by simp) (TQ.val ⟨rfl,fun h hh=>by cases hh;rfl⟩)
   ·rw [h1,cond_false];refine TQ.cond (fun h2=>?_) (fun h2=>?_)
    ·rw [h2,cond_true];exact TQ.ev (qO _ _) (TQ.val (nil _))
    ·rw [h2,cond_false];refine TQ.cond (fun h3=>?_) (fun h3=>?_)
     ·rw [h3,cond_true];exact TQ.val MR.none
     ·rw [h3,cond_false];have hl1:=aB.ws_len p.kids;have hl2:=aB.ws_len f.kids;refine TQ.mono (TQ.bind (Q:=MR (aB.mts bs lits p.kids f.kids) []) (zpK ⟨q4,q2,q3,by omega,by omega,by omega,fun x hx hd g hg=>ih x (by have:=aB.ws_mem hx;omega) ((q4 x hx).pat hd) (by have:=aB.ws_mem hx;omega) g (by have:=aB.ws_mem hg;omega)⟩ ?_) (fun v hv=>TQ.val hv)) (fun r hr=>hr);have h4:aB.ws p.kids*(1+aB.ws f.kids)<=2 ^ 17*2 ^ 17:=Nat.mul_le_mul (by omega) (by omega);omega
end Go.Abs
end
section
set_option linter.unusedVariables false
set_option linter.unusedSimpArgs false
namespace Go.Abs
def zg9 (b:aH):Bool:=zor b.name&&(znt b.scopes&&(decide (1<=b.id)&&decide (b.id<=999)))
noncomputable def bvF:List aH->List aH->Bool
 | _,[]=>true
 | ps,b::bs=>(zg9 b&&!zfE (fun c=>decide (c.name=b.name)&&same c.scopes b.scopes) ps)&&bvF (ps++[b]) bs
noncomputable def zmP (l:List aH):Bool:=bvF [] l&&decide ((l.length:Int)<=60)
def aH.fit (b:aH):Prop:=b.name.size<=9223372036854775807/\b.scopes.length<=9223372036854775807
theorem zeP (l:List aH) (hf:∀ b∈l,b.fit):Tr (fun m=>nY m l) (zmP l):=by
 refine Tr.eq (fun m=>by unfold nY;rfl) ?_;have key:=aX l (fun k zs=>Tr (fun m=>eP m l (k:Int)) (bvF (l.take k) zs&&decide ((l.length:Int)<=60))) ?_ ?_ 0 (Nat.zero_le _)
 ·simpa [zmP] using key
 ·exact Tr.step (fun m=>by rw [eP,aP,cond_false]) (Tr.step (fun m=>by rw [eS,cond_false]) (by rw [bvF,Bool.true_and];exact Tr.val))
 ·intro k x zs hk hx hd ih;have hm:=List.mem_of_getElem? hx;have hxf:=hf x hm;rw [nN hx] at ih;refine Tr.step (fun m=>by rw [eP,ltN hk,cond_true]) ?_;by_cases h60:k<=60
  case neg =>
   refine Tr.step (fun m=>by rw [eS,decide_eq_false (show ¬ (k:Int)<=60 by omega),cond_false]) ?_;rw [decide_eq_false (show ¬ (l.length:Int)<=60 by omega),Bool.and_false];exact Tr.val
  refine Tr.step (fun m=>by rw [eS,decide_eq_true (show (k:Int)<=60 by omega),cond_true,aK hx,Option.bind_some]) (Tr.bind (zkL _) ?_);have j3:∀ b:Bool,zg9 x=!b->Tr (fun m=>cO m l (k:Int) b) (bvF (l.take k) (x::zs)&&decide ((l.length:Int)<=60)):=by
   intro b hb;rw [bvF,hb];cases b with
   | true=>exact Tr.step (fun m=>by rw [cO,cond_true];rfl) Tr.val
   | false =>
     rw [Bool.not_false,Bool.true_and];refine Tr.step (fun m=>by rw [cO,cond_false]) ?_;have inner:∀ d j:Nat,j+d=k->Tr (fun m=>eO m l (k:Int) (j:Int)) ((!zfE (fun c=>decide (c.name=x.name)&&same c.scopes x.scopes) ((l.take k).drop j)&&bvF (l.take k++[x]) zs)&&decide ((l.length:Int)<=60)):=by
      intro d;induction d with
      | zero =>
        intro j hj;obtain rfl:j=k:=by omega
        refine Tr.step (fun m=>by rw [eO,aP,cond_false,bT (by omega),cQ]) ?_;rw [show (l.take j).drop j=[] by rw [List.drop_eq_nil_iff,List.length_take];omega,zfE,Bool.not_false,Bool.true_and];exact ih
      | succ d ihd =>
        intro j hj;have hjl:j < l.length:=by omega
        have hy:l[j]?=some l[j]:=List.getElem?_eq_getElem hjl;have hdr:(l.take k).drop j=l[j]::(l.take k).drop (j+1):=by
         have:(l.take k)[j]?=some l[j]:=by rw [List.getElem?_take,if_pos (by omega),hy]
         exact zjX this
        rw [hdr,zfE];refine Tr.step (fun m=>by rw [eO,ltN (show j < k by omega),cond_true,aK hy,Option.bind_some,aK hx,Option.bind_some]) ?_;have j5:∀ b:Bool,(decide (l[j].name=x.name)&&same l[j].scopes x.scopes)=b->Tr (fun m=>eQ m l (k:Int) (j:Int) b) ((!((decide (l[j].name=x.name)&&same l[j].scopes x.scopes)||zfE (fun c=>decide (c.name=x.name)&&same c.scopes x.scopes) ((l.take k).drop (j+1)))&&bvF (l.take k++[x]) zs)&&decide ((l.length:Int)<=60)):=by
         intro b hb;rw [hb];cases b with
         | true=>exact Tr.step (fun m=>by rw [eQ,cond_true];rfl) Tr.val
         | false=>exact Tr.step (fun m=>by rw [eQ,cond_false,bT (by omega),cQ]) (by rw [Bool.false_or];exact ihd (j+1) (by omega))
        by_cases hn:l[j].name=x.name
        ·refine Tr.tt (decide_eq_true hn) (Tr.eq (fun m=>by rw [Option.bind_some,Option.bind_some]) (Tr.bind (zk1 _ _) (j5 _ ?_)));rw [decide_eq_true hn,Bool.true_and]
        ·refine Tr.ff (decide_eq_false hn) (j5 false ?_);rw [decide_eq_false hn,Bool.false_and]
     have:=inner k 0 (by omega);rw [List.drop_zero] at this;exact this
  unfold zg9 at j3;cases hn:zor x.name with
  | false=>exact Tr.tt rfl (j3 true (by rw [hn];rfl))
  | true =>
  refine Tr.ff rfl (Tr.eq (fun m=>by rw [Option.bind_some]) (Tr.bind (zkK _ hxf.2) ?_));cases hs:znt x.scopes with
  | false=>exact Tr.tt rfl (j3 true (by rw [hn,hs];rfl))
  | true =>
  refine Tr.ff rfl (Tr.eq (fun m=>by rw [Option.bind_some]) ?_);by_cases h1:x.id < 1
  ·exact Tr.tt (decide_eq_true h1) (j3 true (by rw [decide_eq_false (show ¬ 1<=x.id by omega),Bool.false_and,Bool.and_false,Bool.and_false];rfl))
  ·refine Tr.ff (decide_eq_false h1) (Tr.eq (fun m=>by rw [Option.bind_some]) (j3 _ ?_));rw [hn,hs,decide_eq_true (show 1<=x.id by omega),Bool.true_and,Bool.true_and,Bool.true_and];by_cases h2:x.id<=999
   ·rw [decide_eq_true h2,decide_eq_false (show ¬ 999 < x.id by omega)];rfl
   ·rw [decide_eq_false h2,decide_eq_true (show 999 < x.id by omega)];rfl
theorem zG {p:aB} {lits:List aB} (h:zC p lits=true):zkw p:=by
 unfold zC aB.valid at h;simp only [Bool.and_eq_true] at h;exact ⟨⟨40,h.1.1⟩,h.2.2.1⟩
end Go.Abs
end
section
set_option linter.unusedVariables false
set_option linter.unusedSimpArgs false
namespace Go.Abs
noncomputable def vB (rules:List aI) (lits:List aB):Bool:=vN (fun r=>tO r lits) rules&&(decide ((rules.length:Int)<=9)&&ziw lits)
structure DrR (n:Nat) (r:aI):Prop where
 p:Dr n r.pattern
 t:Dr n r.template
theorem zn1 (rules:List aI) (lits:List aB) (hr:∀ r∈rules,DrR (2 ^ 36) r) (hl:aB.fits lits) (hlb:aB.ws lits<=2 ^ 36):Tr (fun m=>r7 m rules lits) (vB rules lits):=by
 refine Tr.eq (fun m=>by unfold r7;rfl) ?_;have key:=aX rules (fun k zs=>(∀ z∈zs,z∈rules)->Tr (fun m=>gZ m rules lits (k:Int)) (vN (fun r=>tO r lits) zs&&(decide ((rules.length:Int)<=9)&&ziw lits))) ?_ ?_ 0 (Nat.zero_le _) (fun z hz=>by simpa using hz)
 ·exact key
 ·intro _;refine Tr.step (fun m=>by rw [gZ,aP,cond_false]) (Tr.step (fun m=>by rw [hB,cond_false]) ?_);rw [vN,Bool.true_and];by_cases h9:(rules.length:Int)<=9
  ·rw [decide_eq_true h9,Bool.true_and];exact Tr.tt (decide_eq_true (by omega)) (Tr.bind (zi6 lits hl hlb) Tr.val)
  ·rw [decide_eq_false h9,Bool.false_and];exact Tr.ff (decide_eq_false (by omega)) Tr.val
 ·intro k x zs hk hx hd ih hz;have hxr:=hr x (hz x (by simp));refine Tr.step (fun m=>by rw [gZ,ltN hk,cond_true]) ?_;by_cases h10:(k:Int) < 10
  ·refine Tr.step (fun m=>by rw [hB,decide_eq_true h10,cond_true,aK hx,Option.bind_some]) ?_;have hsr:=zfP x lits hxr.p.fit hxr.p.w hxr.t.fit hxr.t.w hl hlb;have hsr2:Tr (fun m=>lD m x lits) (tO x lits):=by
    obtain ⟨n,h⟩:=hsr;refine ⟨n,fun m hm=>?_⟩;have:=h m hm;unfold wF at this
    show lD m x lits=_
    replace this:(lD m x lits).bind (fun v1=>some v1)=some (tO x lits):=this;cases h5:lD m x lits with
    | none=>rw [h5] at this;cases this
    | some b=>rw [h5] at this;exact this
   refine Tr.bind hsr2 ?_;rw [vN];cases tO x lits with
   | false=>exact Tr.tt rfl Tr.val
   | true=>exact Tr.ff rfl (Tr.eq (fun m=>by rw [bT (by omega),cQ]) (ih (fun z h=>hz z (by simp [h]))))
  ·refine Tr.step (fun m=>by rw [hB,decide_eq_false h10,cond_false]) ?_;rw [decide_eq_false (show ¬ (rules.length:Int)<=9 by omega),Bool.false_and,Bool.and_false];exact Tr.ff (decide_eq_false (by omega)) Tr.val
theorem zq7 {α:Type} {l:List α} {k:Nat} {d:α} (h:k < l.length):l[k]?=some (l.getD k d)/\l.getD k d∈l:=by
 have:l[k]?=some (l.getD k d):=by rw [List.getD_eq_getElem?_getD,List.getElem?_eq_getElem h];rfl
 exact ⟨this,List.mem_of_getElem? this⟩
theorem zk3 {f:aB} {d:Nat} (h:f.isOk d=true) (h1:f.kind=1):f.valid=true/\f.kids=[]:=by
 have hk:=(oV h).1 (by omega);refine ⟨?_,hk⟩;unfold aB.valid;rw [aB.isOk_eq] at h ⊢;cases hd:decide (d=0) with
 | true=>rw [hd] at h;cases h
 | false =>
   rw [hd,cond_false,decide_eq_true h1,cond_true] at h;rw [decide_eq_false (by omega),cond_false,decide_eq_true h1,cond_true,h,aB.cnt_eq,hk,aB.cnts];rfl
theorem zsj (lits:List aB):∀ (n:Nat) (p:aB),p.w<=n->(∃ d,p.isOk d=true)->∀ x∈p.vs lits,∃ d,x.isOk d=true:=by
 intro n;induction n with
 | zero=>intro p h;have:=p.w_kids;omega
 | succ n ih =>
   intro p hp hd x hx;have hw:=p.w_kids;rw [aB.vs_eq] at hx;rcases List.mem_append.1 hx with hx | hx
   ·cases hv:kF lits p with
    | true=>rw [hv,cond_true,List.mem_singleton] at hx;subst hx;exact hd
    | false=>rw [hv] at hx;cases hx
   ·obtain ⟨d,hd⟩:=hd;have k2:=(oV hd).2;have key:∀ l:List aB,aB.ws l<=n->(∀ y∈l,∃ d,y.isOk d=true)->x∈aB.kVs lits l->∃ d,x.isOk d=true:=by
     intro l;induction l with
     | nil=>intro _ _ hx;rw [aB.kVs] at hx;cases hx
     | cons y ys ihl =>
       intro hl hy hx;rw [aB.ws] at hl;rw [aB.kVs] at hx;rcases List.mem_append.1 hx with hx | hx
       ·exact ih y (by omega) (hy y (by simp)) x hx
       ·exact ihl (by omega) (fun z hz=>hy z (by simp [hz])) hx
    exact key p.kids (by omega) (fun y hy=>⟨_,k2 y hy⟩) hx
end Go.Abs
end
section
set_option linter.unusedVariables false
set_option linter.unusedSimpArgs false
namespace Go.Abs
def zkt {α:Type} (W:α->Nat):List α->Nat
 | []=>0
 | x::xs=>W x+zkt W xs
theorem zjL {α:Type} {W:α->Nat}:∀ {l:List α} {x:α},x∈l->W x<=zkt W l
 | y::ys,x,h=>by
   rw [zkt];rcases List.mem_cons.1 h with rfl | h
   ·omega
   ·have:=zjL (W:=W) h;omega
theorem zoZ {α:Type} {l:List α} {W:α->Nat} {L:Nat->Int->Int->Option Int} {E:Nat->α->Int->Option Int}
  (h0:∀ m g k,L (m+1) g k=bif decide (k < (l.length:Int)) then (idx l k).bind fun a=>(E m a g).bind fun v=>bif decide (v < 0) then some (-1) else L m v (k+1) else some g)
  (hE:∀ x∈l,∀ v:Int,0<=v->v<=2 ^ 40->TQ (fun m=>E m x v) (zkn v (W x))) {v:Int} (hv:0<=v) (h1:v<=2 ^ 40):TQ (fun m=>L m v 0) (zkn v (zkt W l)):=by
 have key:=aX l (fun k zs=>∀ g:Int,0<=g->g<=2 ^ 40->TQ (fun m=>L m g (k:Int)) (zkn g (zkt W zs))) ?_ ?_ 0 (Nat.zero_le _) _ hv h1
 ·simpa using key
 ·intro g hg _;exact TQ.step (fun m=>by rw [h0,aP,cond_false]) (TQ.val (.inr ⟨hg,by simp [zkt]⟩))
 ·intro k x zs hk hx hd ihk g hg hg1;refine TQ.step (fun m=>by rw [h0,ltN hk,cond_true,aK hx,Option.bind_some,cQ]) ?_;refine TQ.bind (hE x (List.mem_of_getElem? hx) g hg hg1) (fun r hr=>?_);rcases hr with rfl | ⟨hr,rfl⟩
  ·exact TQ.cond (fun _=>TQ.val (.inl rfl)) (fun h=>absurd h (by decide))
  refine TQ.cond (fun h=>absurd h (by rw [geZ hr];decide)) (fun _=>?_);refine TQ.mono (ihk _ hr (by omega)) (fun r hr=>?_);rcases hr with hr | ⟨hr,he⟩
  ·exact .inl hr
  ·exact .inr ⟨hr,by rw [he,zkt];omega⟩
theorem zs6 {F:Nat->Option Int} {G:Int->Nat->Option Int} {v:Int} {a b:Nat} (h1:TQ F (zkn v a)) (h2:∀ r:Int,0<=r->r=v-a->TQ (fun m=>G r m) (zkn r b)) :
  TQ (fun m=>(F m).bind fun r=>bif decide (r < 0) then some (-1) else (G r m).bind fun s=>bif decide (s < 0) then some (-1) else some s) (zkn v (a+b)):=by
 refine TQ.bind h1 (fun r hr=>?_);rcases hr with rfl | ⟨hr,e⟩
 ·exact TQ.cond (fun _=>TQ.val (.inl rfl)) (fun h=>absurd h (by decide))
 refine TQ.cond (fun h=>absurd h (by rw [geZ hr];decide)) (fun _=>TQ.bind (h2 r hr e) (fun s hs=>?_));rcases hs with rfl | ⟨hs,e2⟩
 ·exact TQ.cond (fun _=>TQ.val (.inl rfl)) (fun h=>absurd h (by decide))
 exact TQ.cond (fun h=>absurd h (by rw [geZ hs];decide)) (fun _=>TQ.val (.inr ⟨hs,by omega⟩))
theorem zoY {α:Type} {l:List α} {n:Nat} {v:Int} {G:Int->Nat->Option Int} (hl:l.length<=9223372036854775807) (h0:0<=v) (h1:v<=2 ^ 40) (hG:∀ r:Int,0<=r->r=v-l.length->TQ (fun m=>G r m) (zkn r n)) :
  TQ (fun m=>bif decide ((w64 (v-(l.length:Int))) < 0) then some (-1) else G (w64 (v-(l.length:Int))) m) (zkn v (l.length+n)):=by
 rw [bT (by omega)];refine TQ.cond (fun _=>TQ.val (.inl rfl)) (fun h=>?_);replace h:0<=v-(l.length:Int):=by simpa using h
 refine TQ.mono (hG _ h rfl) (fun r hr=>?_);rcases hr with hr | ⟨hr,he⟩
 ·exact .inl hr
 ·exact .inr ⟨hr,by rw [he];omega⟩
def aH.wt (b:aH):Nat:=b.name.size+b.scopes.length
def aI.wt (r:aI):Nat:=r.pattern.wt+r.template.wt
def eD.wt (m:eD):Nat:=aB.wts m.literals+(m.rules.length+zkt aI.wt m.rules)
def cM.wt (x:cM):Nat:=(x.binds.length+zkt aH.wt x.binds)+(x.macros.length+zkt eD.wt x.macros)
structure aI.fit (r:aI):Prop where
 p:r.pattern.fit
 t:r.template.fit
structure eD.fit (m:eD):Prop where
 ll:m.literals.length<=9223372036854775807
 l:aB.fits m.literals
 rl:m.rules.length<=9223372036854775807
 r:∀ r∈m.rules,r.fit
structure cM.fit (x:cM):Prop where
 bl:x.binds.length<=9223372036854775807
 b:∀ b∈x.binds,b.fit
 ml:x.macros.length<=9223372036854775807
 m:∀ m∈x.macros,m.fit
theorem zpx (b:aH) (v:Int) (hb:b.fit) (h0:0<=v) (h1:v<=2 ^ 40):TQ (fun m=>rE m b v) (zkn v b.wt):=by
 have h2:=hb.1;refine TQ.eq (fun m=>by unfold rE;rw [bT (by omega)]) ?_;refine TQ.cond (fun _=>TQ.val (.inl rfl)) (fun h=>?_);replace h:0<=v-(b.name.size:Int):=by simpa using h
 refine TQ.bind (zkH _ _ hb.2 h (by omega)) (fun r hr=>?_);rcases hr with rfl | ⟨hr,rfl⟩
 ·exact TQ.cond (fun _=>TQ.val (.inl rfl)) (fun h=>absurd h (by decide))
 exact TQ.cond (fun h=>absurd h (by rw [geZ hr];decide)) (fun _=>TQ.val (.inr ⟨hr,by unfold aH.wt;omega⟩))
theorem znG (l:List aH) (v:Int) (hl:l.length<=9223372036854775807) (hb:∀ b∈l,b.fit) (h0:0<=v) (h1:v<=2 ^ 40):TQ (fun m=>sA m l v) (zkn v (l.length+zkt aH.wt l)):=by
 refine TQ.eq (fun m=>by unfold sA;rfl) (zoY hl h0 h1 (G:=fun r m=>hQ m l r 0) (fun r h2 e=>?_));exact zoZ (L:=fun m g k=>hQ m l g k) (E:=fun m a g=>rE m a g) (fun m g k=>by rw [hQ]) (fun x hx v h h'=>zpx x v (hb x hx) h h') h2 (by omega)
theorem zpv (r:aI) (v:Int) (hr:r.fit) (h0:0<=v) (h1:v<=2 ^ 40):TQ (fun m=>rC m r v) (zkn v r.wt):=by
 refine TQ.eq (fun m=>by unfold rC;rfl) ?_;exact zs6 (zdN _ _ hr.p h0 h1) (G:=fun w m=>iG m r.template w) (fun w h2 e=>zdN _ _ hr.t h2 (by omega))
theorem znE (l:List aI) (v:Int) (hl:l.length<=9223372036854775807) (hb:∀ b∈l,b.fit) (h0:0<=v) (h1:v<=2 ^ 40):TQ (fun m=>r9 m l v) (zkn v (l.length+zkt aI.wt l)):=by
 refine TQ.eq (fun m=>by unfold r9;rfl) (zoY hl h0 h1 (G:=fun r m=>hP m l r 0) (fun r h2 e=>?_));exact zoZ (L:=fun m g k=>hP m l g k) (E:=fun m a g=>rC m a g) (fun m g k=>by rw [hP]) (fun x hx v h h'=>zpv x v (hb x hx) h h') h2 (by omega)
theorem zpt (b:aH) (h:b.scopes.length<=2 ^ 36):Tr (fun m=>mX m b) b:=by
 refine Tr.eq (fun m=>by unfold mX;rfl) (Tr.bind (zkF _ h) ?_);obtain ⟨x,y,z⟩:=b;exact Tr.val
theorem znD (l:List aH) (hl:l.length<=2 ^ 36) (h:∀ b∈l,b.scopes.length<=2 ^ 36):Tr (fun m=>iD m l) l:=by
 refine Tr.eq (fun m=>by unfold iD;rfl) (Tr.chk (by simp;omega) ?_);have:=zbp (xs:=l) (z:=aH.mk (⟨#[]⟩:ByteArray) ([]:List Int) 0) (f:=fun x=>x) (L:=fun m k acc=>eL m l k acc) (E:=fun m a=>mX m a) (fun m k acc=>by rw [eL]) (fun a ha=>zpt a (h a ha));simpa using this
theorem zps (r:aI) (h1:r.pattern.w<=2 ^ 36) (h2:r.template.w<=2 ^ 36):Tr (fun m=>mV m r) r:=by
 refine Tr.eq (fun m=>by unfold mV;rfl) (Tr.bind (zdM _ h1) (Tr.bind (zdM _ h2) ?_));obtain ⟨a,b⟩:=r;exact Tr.val
theorem znB (l:List aI) (hl:l.length<=2 ^ 36) (h:∀ r∈l,r.pattern.w<=2 ^ 36/\r.template.w<=2 ^ 36):Tr (fun m=>iC m l) l:=by
 refine Tr.eq (fun m=>by unfold iC;rfl) (Tr.chk (by simp;omega) ?_);have:=zbp (xs:=l) (z:=aI.mk (aB.mk 0 (⟨#[]⟩:ByteArray) 0 ([]:List Int) ([]:List aB)) (aB.mk 0 (⟨#[]⟩:ByteArray) 0 ([]:List Int) ([]:List aB))) (f:=fun x=>x) (L:=fun m k acc=>eK m l k acc) (E:=fun m a=>mV m a) (fun m k acc=>by rw [eK]) (fun a ha=>zps a (h a ha).1 (h a ha).2);simpa using this
theorem zkY {α:Type} {xs:List α} {L:Nat->Int->Option Bool} {E:Nat->α->α->Option Bool}
  (h0:∀ m k,L (m+1) k=bif decide (k < (xs.length:Int)) then (idx xs k).bind fun a=>(idx xs k).bind fun b=>(E m a b).bind fun v=>bif !v then some false else L m (k+1) else some true)
  (hE:∀ a,Tr (fun m=>E m a a) true):Tr (fun m=>L m 0) true:=by
 have key:=aX xs (fun k zs=>Tr (fun m=>L m (k:Int)) true) ?_ ?_ 0 (Nat.zero_le _)
 ·simpa using key
 ·exact Tr.step (fun m=>by rw [h0,aP,cond_false]) Tr.val
 ·intro k x zs hk hx hd ih;refine Tr.step (fun m=>by rw [h0,ltN hk,cond_true,aK hx,Option.bind_some,Option.bind_some,cQ]) ?_;refine Tr.bind (hE x) ?_;exact Tr.ff rfl ih
theorem zmn (b:aH):Tr (fun m=>rH m b b) true:=by
 refine Tr.eq (fun m=>by unfold rH;rw [decide_eq_false (fun h=>h rfl),cond_false]) (Tr.bind (zlh _ _) ?_);rw [qG];exact Tr.ff rfl (Tr.ff (decide_eq_false (fun h=>h rfl)) Tr.val)
theorem zlB (l:List aH):Tr (fun m=>sC m l l) true:=by
 refine Tr.eq (fun m=>by unfold sC;rfl) (Tr.ff (zp9 rfl) ?_);exact zkY (L:=fun m k=>jD m l l k) (E:=fun m a b=>rH m a b) (fun m k=>by rw [jD]) zmn
theorem zmm (r:aI):Tr (fun m=>rF m r r) true:=by
 refine Tr.eq (fun m=>by unfold rF;rfl) (Tr.bind (zdS _ _) ?_);rw [qG];refine Tr.ff rfl (Tr.bind (zdS _ _) ?_);rw [qG];exact Tr.ff rfl Tr.val
theorem zlz (l:List aI):Tr (fun m=>sB m l l) true:=by
 refine Tr.eq (fun m=>by unfold sB;rfl) (Tr.ff (zp9 rfl) ?_);exact zkY (L:=fun m k=>jC m l l k) (E:=fun m a b=>rF m a b) (fun m k=>by rw [jC]) zmm
end Go.Abs
end
section
set_option linter.unusedVariables false
set_option linter.unusedSimpArgs false
namespace Go.Abs
theorem zho {α:Type} {D:α->Bool} {l:List α} {k:Nat}:decide (0<=fnd D l k)=zfE D l:=by
 rw [Bool.eq_iff_iff,decide_eq_true_iff,zoR,zgV]
theorem vA (l:List aH) (hl:l.length<=9223372036854775807) (hf:∀ b∈l,b.fit):Tr (fun m=>jF m l) (zmP l):=by
 refine Tr.eq (fun m=>by unfold jF;rfl) ?_;have key:=aX l (fun k zs=>Tr (fun m=>eU m l (k:Int)) (bvF (l.take k) zs&&decide ((l.length:Int)<=60))) ?_ ?_ 0 (Nat.zero_le _)
 ·simpa [zmP] using key
 ·exact Tr.step (fun m=>by rw [eU,aP,cond_false]) (by rw [bvF,Bool.true_and];exact Tr.val)
 ·intro k x zs hk hx hd ih;have hm:=List.mem_of_getElem? hx;have hxf:=hf x hm;rw [nN hx] at ih;have j2:∀ b:Bool,zg9 x=!b->Tr (fun m=>dH m l (k:Int) x b) (bvF (l.take k) (x::zs)&&decide ((l.length:Int)<=60)):=by
   intro b hb;rw [bvF,hb];cases b with
   | true=>exact Tr.step (fun m=>by rw [dH,cond_true];rfl) Tr.val
   | false =>
     rw [Bool.not_false,Bool.true_and];refine Tr.step (fun m=>by rw [dH,cond_false,zV (by omega),Option.bind_some,cQ]) ?_;refine Tr.bind (v:=zfE (fun c=>decide (c.name=x.name)&&same c.scopes x.scopes) (l.take k)) ?_ ?_
     ·refine Tr.eq (fun m=>by unfold dA;rfl) (Tr.bind (v:=fnd (fun c=>decide (c.name=x.name)&&same c.scopes x.scopes) (l.take k) 0) ?_ (Tr.of fun m=>by rw [zho]));refine Tr.eq (fun m=>by unfold dW;rfl) ?_;refine mS (L:=fun m j=>aY m (l.take k) x j) (E:=fun m y=>mB m y x) (fun m j=>by rw [aY]) (fun y _=>?_);refine Tr.eq (fun m=>by unfold mB;rfl) ?_;cases decide (y.name=x.name) with
      | false=>exact Tr.ff rfl Tr.val
      | true=>exact Tr.tt rfl (Tr.bind (zi7 _ _) Tr.val)
     ·cases zfE (fun c=>decide (c.name=x.name)&&same c.scopes x.scopes) (l.take k) with
      | true=>exact Tr.tt rfl Tr.val
      | false=>exact Tr.ff rfl (by rw [Bool.not_false,Bool.true_and];exact ih)
  refine Tr.step (fun m=>by rw [eU,ltN hk,cond_true,aK hx,Option.bind_some]) (Tr.bind (zk6 _ hxf.1) ?_);cases hn:zor x.name with
  | false=>exact Tr.tt rfl (j2 true (by unfold zg9;rw [hn];rfl))
  | true =>
  refine Tr.ff rfl (Tr.bind (zk5 _ hxf.2) ?_);cases hs:znt x.scopes with
  | false=>exact Tr.tt rfl (j2 true (by unfold zg9;rw [hn,hs];rfl))
  | true =>
  refine Tr.ff rfl (Tr.bind (zbj _ _ _) (j2 _ ?_));unfold zg9;rw [hn,hs,Bool.not_not];rfl
theorem zsB (l:List Int) (n:Int):Tr (fun m=>kB m l n) (zql l n):=by
 refine Tr.eq (fun m=>by unfold kB;rfl) (Tr.bind (v:=fnd (fun y=>decide (n=y)) l 0) ?_ ?_)
 ·refine Tr.eq (fun m=>by unfold pW;rfl) ?_;exact mS (L:=fun m j=>fL m l n j) (E:=fun m y=>some (decide (n=y))) (fun m j=>by rw [fL];rfl) (fun y _=>Tr.val)
 ·have e:decide (0<=fnd (fun y=>decide (n=y)) l 0)=zql l n:=by
   rw [zho,Bool.eq_iff_iff,zgV,zql,zgV];simp only [decide_eq_true_eq,eq_comm]
  rw [<- e];exact Tr.val
theorem zgO {α:Type} {D:α->Bool}:∀ {l:List α},(!zfE (fun x=>!D x) l)=vN D l
 | []=>rfl
 | x::xs=>by rw [zfE,vN,Bool.not_or,Bool.not_not,zgO]
theorem zdY (a b:List Int):Tr (fun m=>jH m a b) (zE a b):=by
 refine Tr.eq (fun m=>by unfold jH;rfl) (Tr.bind (v:=zfE (fun x=>!zql b x) a) ?_ ?_)
 ·refine Tr.eq (fun m=>by unfold cP;rfl) (Tr.bind (v:=fnd (fun x=>!zql b x) a 0) ?_ (Tr.of fun m=>by rw [zho]));refine Tr.eq (fun m=>by unfold dJ;rfl) ?_;exact mS (L:=fun m j=>aW m a b j) (E:=fun m y=>kC m y b) (fun m j=>by rw [aW]) (fun y _=>Tr.eq (fun m=>by unfold kC;rfl) (Tr.bind (zsB _ _) Tr.val))
 ·rw [<- show (!zfE (fun x=>!zql b x) a)=zE a b from zgO];exact Tr.val
theorem zn9 (l:List aH) (f:aB) (hb:l.length<=2 ^ 36):Tr (fun m=>sF m l f) (zeu l f):=by
 refine Tr.eq (fun m=>by unfold sF;rfl) ?_;have key:=aX l (fun k zs=>∀ g:List Int,g.length<=k->Tr (fun m=>fZ m l f g (k:Int)) (g++zfI f zs k)) ?_ ?_ 0 (Nat.zero_le _) [] (by simp)
 ·exact key
 ·intro g _;refine Tr.step (fun m=>by rw [fZ,aP,cond_false]) ?_;rw [zfI,List.append_nil];exact Tr.val
 ·intro k x zs hk hx hd ih g hg;refine Tr.step (fun m=>by rw [fZ,ltN hk,cond_true,aK hx,Option.bind_some]) ?_;rw [zfI];have j2:∀ b:Bool,zqm f x=b->Tr (fun m=>jE m l f g (k:Int) b) (g++((bif zqm f x then [(k:Int)] else [])++zfI f zs (k+1))):=by
   intro b hb;rw [hb];refine Tr.step (fun m=>by rw [jE]) ?_;cases b with
   | true =>
     refine Tr.tt rfl (Tr.chk (decide_eq_true (by simp;omega)) ?_);have:=ih (g++[(k:Int)]) (by simp;omega);rw [List.append_assoc] at this;exact this
   | false=>exact Tr.ff rfl (by simpa using ih g (by omega))
  unfold zqm at j2;by_cases hn:x.name=f.name
  ·refine Tr.tt (decide_eq_true hn) (Tr.bind (zdY _ _) (j2 _ ?_));rw [decide_eq_true hn,Bool.true_and]
  ·refine Tr.ff (decide_eq_false hn) (j2 false ?_);rw [decide_eq_false hn,Bool.false_and]
theorem zri (l:List aH) (f:aB) (hb:l.length<=2 ^ 36):Tr (fun m=>vV m l f) (ziW l f):=by
 refine Tr.eq (fun m=>by unfold vV;rfl) (Tr.bind (zn9 l f hb) ?_);unfold ziW;have hm:∀ i∈zeu l f,0<=i/\i < (l.length:Int):=fun i hi=>zhK hi
 generalize zeu l f=fs at hm;by_cases h0:fs=[]
 ·subst h0;exact Tr.tt rfl Tr.val
 have hpos:0 < fs.length:=by cases fs with
  | nil=>exact absurd rfl h0
  | cons a b=>simp
 rw [decide_eq_true (show 0 < (fs.length:Int) by omega),cond_true];refine Tr.ff (decide_eq_false (by omega)) ?_;have key:=aX fs (fun k zs=>(∀ z∈zs,z∈fs)->Tr (fun m=>j4 m l fs (k:Int)) (match zak l fs zs with
  | some i=>(i,1)
  | none=>(0,2))) ?_ ?_ 0 (Nat.zero_le _) (fun z hz=>by simpa using hz)
 ·exact key
 ·intro _;exact Tr.step (fun m=>by rw [j4,aP,cond_false];rfl) Tr.val
 ·intro k x zs hk hx hd ih hz;have hx1:=hm x (hz x (by simp));refine Tr.step (fun m=>by rw [j4,ltN hk,cond_true,aK hx,Option.bind_some,cQ]) ?_;rw [zak];refine Tr.bind (v:=zfE (fun j=>!zE (bAt l j).scopes (bAt l x).scopes) fs) ?_ ?_
  ·refine Tr.eq (fun m=>by unfold fA;rfl) (Tr.bind (v:=fnd (fun j=>!zE (bAt l j).scopes (bAt l x).scopes) fs 0) ?_ (Tr.of fun m=>by rw [zho]));refine Tr.eq (fun m=>by unfold gB;rfl) ?_;refine mS (L:=fun m j=>bJ m fs l x j) (E:=fun m y=>sH m y l x) (fun m j=>by rw [bJ]) (fun y hy=>?_);have hy1:=hm y hy;exact Tr.eq (fun m=>by unfold sH;rw [zcN hy1.1 hy1.2,Option.bind_some,zcN hx1.1 hx1.2,Option.bind_some]) (Tr.bind (zdY _ _) Tr.val)
  ·have e:(!zfE (fun j=>!zE (bAt l j).scopes (bAt l x).scopes) fs)=zkq l fs x:=zgO;cases hbb:zkq l fs x with
   | true=>exact Tr.tt (e.trans hbb) Tr.val
   | false=>exact Tr.ff (e.trans hbb) (ih (fun z hzz=>hz z (by simp [hzz])))
theorem znK (rules:List aI) (lits:List aB) (hr:∀ r∈rules,r.fit/\r.pattern.w<=2 ^ 36/\r.template.w<=2 ^ 36) (hl:aB.fits lits):Tr (fun m=>sD m rules lits) (vB rules lits):=by
 refine Tr.eq (fun m=>by unfold sD;rfl) ?_;unfold vB;by_cases h9:(rules.length:Int)<=9
 case neg=>rw [decide_eq_false h9,Bool.false_and,Bool.and_false];exact Tr.ff rfl Tr.val
 rw [decide_eq_true h9,Bool.true_and];refine Tr.tt rfl (Tr.bind (zjj lits hl) ?_);cases ziw lits with
 | false=>rw [Bool.and_false];exact Tr.ff rfl Tr.val
 | true =>
 rw [Bool.and_true];refine Tr.tt rfl (Tr.bind (v:=zfE (fun r=>!tO r lits) rules) ?_ ?_)
 ·refine Tr.eq (fun m=>by unfold dX;rfl) (Tr.bind (v:=fnd (fun r=>!tO r lits) rules 0) ?_ (Tr.of fun m=>by rw [zho]));refine Tr.eq (fun m=>by unfold e7;rfl) ?_;refine mS (L:=fun m j=>bE m rules lits j) (E:=fun m y=>pC m y lits) (fun m j=>by rw [bE]) (fun y hy=>?_);have h:=hr y hy;exact Tr.eq (fun m=>by unfold pC;rfl) (Tr.bind (zgJ y lits h.1.p h.2.1 h.1.t h.2.2 hl) Tr.val)
 ·rw [show (fun m=>some (!zfE (fun r=>!tO r lits) rules))=fun (m:Nat)=>some (vN (fun r=>tO r lits) rules) from funext fun _=>by rw [zgO]];exact Tr.val
end Go.Abs
end
