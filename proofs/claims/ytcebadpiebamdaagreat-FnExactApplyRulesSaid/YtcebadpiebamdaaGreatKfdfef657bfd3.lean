/- A part of the proof: what the functions that the law calls answer, as pure values. -/
import Derived.Test.YtcebadpiebamdaaGreatK6b40e9d6df31
import Derived.Test.YtcebadpiebamdaaGreatK18ea951b7504
import Derived.Test.YtcebadpiebamdaaGreatK403ef3ea41a7
import Derived.Test.YtcebadpiebamdaaGreatKfd88efc704ec
import Derived.Test.YtcebadpiebamdaaGreatK331fa2d90bd9
set_option linter.unusedSimpArgs false
set_option linter.unusedVariables false
section
set_option linter.unusedVariables false
set_option linter.unusedSimpArgs false
namespace Go.Abs
mutual
theorem aB.vd_up (lits:List aB):∀ (f:aB) (v:Nat),(f.vd lits (v+1)).map (·.2)=((f.vd lits v).map (·.2)).map (·+1)
 | .mk k nm n sc kids,v=>by
   have:=aB.kV_up lits kids v;rw [aB.vd,aB.vd,List.map_append,List.map_append,List.map_append,this];cases kF lits (.mk k nm n sc kids)<;>simp
theorem aB.kV_up (lits:List aB):∀ (l:List aB) (v:Nat),(aB.kV lits (v+1) l).map (·.2)=((aB.kV lits v l).map (·.2)).map (·+1)
 | [],v=>by rw [aB.kV,aB.kV];rfl
 | y::ys,v=>by
   have h1:=aB.kV_up lits ys v;have h2:=aB.vd_up lits y v;have h3:=aB.vd_up lits y (v+1);rw [aB.kV,aB.kV,List.map_append,List.map_append,List.map_append,h1];cases fD ys with
   | true=>rw [cond_true,cond_true,h3]
   | false=>rw [cond_false,cond_false,h2]
end
theorem zi9:∀ (vs:List (aB × Int)) (k:Nat) (rows:List (List Hit)),(rZ k vs rows).map Hit.depth=(vs.map (·.2)).map (·+1)
 | [],k,rows=>rfl
 | v::vs,k,rows=>by rw [rZ,List.map_cons,List.map_cons,List.map_cons,zi9 vs];rfl
theorem zko.dots_vd {x:aB} (h:zko x) (hd:aN x=true) (lits:List aB) (v:Nat):x.vd lits v=[]:=by
 obtain ⟨_,h2,h3⟩:=h.dots hd lits;rw [aB.vd_eq,h2,h3,aB.kV];rfl
theorem yA {bs:List aH} {lits:List aB}:∀ {ps:List aB},(∀ x∈ps,zko x)->(∀ x∈ps,aN x=false->∀ f h,x.mt bs lits f=some h->h.map Hit.depth=(x.vd lits 0).map (·.2))->∀ {fs:List aB} {h:List Hit},aB.mts bs lits ps fs=some h->h.map Hit.depth=(aB.kV lits 0 ps).map (·.2)
 | [],_,_,fs,h,hm=>by
   rw [aB.mts] at hm;cases hz:decide (fs.length=0) with
   | true=>rw [hz] at hm;cases hm;rfl
   | false=>rw [hz] at hm;cases hm
 | p::ps,hk,ih,fs,h,hm=>by
   have hk':∀ x∈ps,zko x:=fun x hx=>hk x (by simp [hx])
   have ih':∀ x∈ps,aN x=false->∀ f h,x.mt bs lits f=some h->h.map Hit.depth=(x.vd lits 0).map (·.2):=fun x hx=>ih x (by simp [hx])
   rw [aB.kV,List.map_append];rcases zbT hm with ⟨hd,hm2⟩ | ⟨hd,hn,hl,rows,h2,ha,hm2,rfl⟩ | ⟨hd,hn,f,fs',h1,h2,rfl,hf,hm2,rfl⟩
   ·rw [(hk p (by simp)).dots_vd hd,(hk p (by simp)).dots_vd hd];cases fD ps<;>exact yA hk' ih' hm2
   ·rw [List.map_append,zi9,hn,cond_true,aB.vd_up,yA hk' ih' hm2]
   ·rw [List.map_append,ih p (by simp) hd f h1 hf,hn,cond_false,yA hk' ih' hm2]
theorem znT (bs:List aH) (lits:List aB):∀ (n:Nat) (p:aB),p.w<=n->zkw p->∀ f h,p.mt bs lits f=some h->h.map Hit.depth=(p.vd lits 0).map (·.2):=by
 intro n;induction n with
 | zero=>intro p h;have:=p.w_kids;omega
 | succ n ih =>
   intro p hp hs f h hm;have hw:=p.w_kids;obtain ⟨q1,q2,q3,q4,q5⟩:=hs.parts;rw [aB.mt_eq] at hm;rw [aB.vd_eq];by_cases h1:p.kind=1
   ·rw [decide_eq_true h1,cond_true] at hm;rw [q5 (by omega),aB.kV,List.append_nil];unfold aN at q1;rw [decide_eq_true h1,Bool.true_and] at q1;unfold kF;rw [decide_eq_true h1,q1,Bool.not_false,Bool.true_and,Bool.true_and];cases hu:decide (p.name=s8) with
    | true=>rw [hu] at hm;cases hm;rfl
    | false =>
    rw [hu,cond_false] at hm;cases hi:inF lits p with
    | true =>
      rw [hi,cond_true] at hm;cases hr:(decide (f.kind=1)&&znv bs p f) with
      | true=>rw [hr] at hm;cases hm;rfl
      | false=>rw [hr] at hm;cases hm
    | false=>rw [hi] at hm;cases hm;rfl
   ·rw [decide_eq_false h1,cond_false] at hm;have hv:kF lits p=false:=by unfold kF;rw [decide_eq_false h1];rfl
    rw [hv,cond_false,List.nil_append];by_cases h2:p.kind=2
    ·rw [decide_eq_true h2,cond_true] at hm;rw [q5 (by omega),aB.kV];cases hr:same p f with
     | true=>rw [hr] at hm;cases hm;rfl
     | false=>rw [hr] at hm;cases hm
    ·rw [decide_eq_false h2,cond_false] at hm;cases hr:decide (f.kind≠3) with
     | true=>rw [hr] at hm;cases hm
     | false =>
       rw [hr,cond_false] at hm;exact yA q4 (fun x hx hd=>ih x (by have:=aB.ws_mem hx;omega) ((q4 x hx).pat hd)) hm
theorem zjT {bs:List aH} {lits:List aB} {p f:aB} {h:List Hit} (hs:zkw p) (hm:p.mt bs lits f=some h):h.map Hit.depth=(p.vd lits 0).map (·.2):=znT bs lits _ p (Nat.le_refl _) hs f h hm
theorem zhE:∀ (n:Nat) (f:aB),f.w<=n->∀ d e,d<=e->f.isOk d=true->f.isOk e=true:=by
 intro n;induction n with
 | zero=>intro f h;have:=f.w_kids;omega
 | succ n ih =>
   intro f hf d e hde h;have hw:=f.w_kids;rw [aB.isOk_eq] at h ⊢;by_cases hd:d=0
   ·rw [decide_eq_true hd] at h;cases h
   rw [decide_eq_false hd,cond_false] at h;rw [decide_eq_false (show ¬ e=0 by omega),cond_false];cases h1:decide (f.kind=1) with
   | true=>rw [h1,cond_true] at h;exact h
   | false =>
   rw [h1,cond_false] at h;rw [cond_false];cases h2:decide (f.kind=2) with
   | true=>rw [h2,cond_true] at h;exact h
   | false =>
   rw [h2,cond_false] at h;rw [cond_false];simp only [Bool.and_eq_true] at h ⊢;obtain ⟨a,b,c,k,g⟩:=h;refine ⟨a,b,c,k,?_⟩;rw [oF] at g ⊢;exact fun x hx=>ih x (by have:=aB.ws_mem hx;omega) (d-1) (e-1) (by omega) (g x hx)
theorem zng:∀ {l:List aB} {x:aB},x∈l->x.cnt<=aB.cnts l
 | y::ys,x,h=>by
   rw [aB.cnts];rcases List.mem_cons.1 h with rfl | h
   ·omega
   ·have:=zng h;omega
theorem zdI:∀ (l:List aB),l.length<=aB.cnts l
 | []=>by simp
 | y::ys=>by
   have:=zdI ys;have:=y.cnt_eq;rw [aB.cnts,List.length_cons];omega
theorem zkE {f x:aB} (h:f.valid=true) (hx:x∈f.kids):x.valid=true:=by
 unfold aB.valid at h ⊢;rw [Bool.and_eq_true,decide_eq_true_eq] at h ⊢;have:=(oV h.1).2 x hx;have h2:=zng hx;have h3:=f.cnt_eq;exact ⟨zhE _ x (Nat.le_refl _) (40-1) 40 (by omega) this,by omega⟩
theorem znA {f:aB} (h:f.valid=true):f.kids.length<=400:=by
 unfold aB.valid at h;rw [Bool.and_eq_true,decide_eq_true_eq] at h;have h2:=zdI f.kids;have h3:=f.cnt_eq;omega
def zmQ:Nat->Hit->Prop
 | 0,h=>h.depth=0/\h.one.valid=true/\h.many=[]
 | d+1,h=>h.depth=(d:Int)+1/\h.one=mF/\h.many.length<=400/\∀ x∈h.many,x.name=h.name/\zmQ d x
def zoy (f:aB):Bool:=zfD f&&(!decide (f.name=zg1)&&!decide (f.name=s8))
theorem zmQ.depth {d:Nat} {h:Hit} (hd:zmQ d h):h.depth=(d:Int):=by
 cases d with
 | zero=>exact hd.1
 | succ d=>rw [hd.1];omega
theorem zmQ.isOk:∀ (d:Nat) (h:Hit),d<=3->zmQ d h->zoy h.name=true->h.isOk=true
 | 0,h,hd,hh,hn=>by
   obtain ⟨h1,h2,h3⟩:=hh;unfold zoy at hn;simp only [Bool.and_eq_true] at hn;rw [Hit.isOk_eq,hn.1,hn.2.1,hn.2.2,h1,h2,h3];rfl
 | d+1,h,hd,hh,hn=>by
   obtain ⟨h1,h2,h3,h4⟩:=hh;have hn0:=hn;unfold zoy at hn;simp only [Bool.and_eq_true] at hn;rw [Hit.isOk_eq,hn.1,hn.2.1,hn.2.2,h1,h2,qG,decide_eq_false (show ¬ (d:Int)+1=0 by omega),decide_eq_true (show (0:Int)<=(d:Int)+1 by omega),decide_eq_true (show (d:Int)+1<=3 by omega),decide_eq_true (show (h.many.length:Int)<=400 by omega)];simp only [Bool.true_and,cond_false];rw [oF];intro x hx;obtain ⟨e1,e2⟩:=h4 x hx;rw [e1,qG,e2.depth,decide_eq_true (show (d:Int)=(d:Int)+1-1 by omega),zmQ.isOk d x (by omega) e2 (by rw [e1];exact hn0)];rfl
theorem zmV:∀ {vs:List (aB × Int)} {k:Nat} {rows:List (List Hit)} {x:Hit},x∈rZ k vs rows->∃ j v,vs[j]?=some v/\x=Hit.mk v.1 (v.2+1) mF (rows.map fun r=>r.getD (k+j) zdC)
 | v::vs,k,rows,x,hx=>by
   rw [rZ] at hx;rcases List.mem_cons.1 hx with rfl | hx
   ·exact ⟨0,v,rfl,rfl⟩
   ·obtain ⟨j,w,h1,h2⟩:=zmV hx;exact ⟨j+1,w,by simpa using h1,by rw [h2,show k+1+j=k+(j+1) by omega]⟩
theorem zac {bs:List aH} {lits:List aB}:∀ {ps:List aB},(∀ x∈ps,zko x)->(∀ x∈ps,aN x=false->∀ f h,f.valid=true->x.mt bs lits f=some h->∀ y∈h,0<=y.depth/\zmQ y.depth.toNat y)->∀ {fs:List aB} {h:List Hit},fs.length<=400->(∀ f∈fs,f.valid=true)->aB.mts bs lits ps fs=some h->∀ y∈h,0<=y.depth/\zmQ y.depth.toNat y
 | [],_,_,fs,h,_,_,hm=>by
   rw [aB.mts] at hm;cases hz:decide (fs.length=0) with
   | true=>rw [hz] at hm;cases hm;intro y hy;cases hy
   | false=>rw [hz] at hm;cases hm
 | p::ps,hk,ih,fs,h,hl,hv,hm=>by
   have hk':∀ x∈ps,zko x:=fun x hx=>hk x (by simp [hx])
   have ih':∀ x∈ps,aN x=false->∀ f h,f.valid=true->x.mt bs lits f=some h->∀ y∈h,0<=y.depth/\zmQ y.depth.toNat y:=fun x hx=>ih x (by simp [hx])
   rcases zbT hm with ⟨hd,hm2⟩ | ⟨hd,hn,hl2,rows,h2,ha,hm2,rfl⟩ | ⟨hd,hn,f,fs',h1,h2,rfl,hf,hm2,rfl⟩
   ·exact zac hk' ih' hl hv hm2
   ·intro y hy;rcases List.mem_append.1 hy with hy | hy
    ·obtain ⟨j,v,hj,rfl⟩:=zmV hy;have hvm:=List.mem_of_getElem? hj;have h0:=aB.vd_nn lits p 0 v hvm;have hS:=(hk p (by simp)).pat hd;refine ⟨by show 0<=v.2+1;omega,?_⟩
     show zmQ (v.2+1).toNat _
     obtain ⟨d,hd2⟩:=Int.eq_ofNat_of_zero_le h0;rw [hd2,show ((d:Int)+1).toNat=d+1 by omega];refine ⟨rfl,rfl,?_,fun z hz=>?_⟩
     ·show (rows.map _).length<=400
      rw [List.length_map,zgW ha,List.length_take];omega
     ·obtain ⟨r,hr,rfl⟩:=List.mem_map.1 hz;obtain ⟨f,hf,hD⟩:=zdK ha r hr;have hlen:=zkz hS hD;have hjl:=(List.getElem?_eq_some_iff.1 hj).1;rw [Nat.zero_add];obtain ⟨e1,e2⟩:=zq7 (l:=r) (k:=j) (d:=zdC) (by omega);have n1:(r.getD j zdC).name=v.1:=by
       have:=zdF hS hD;rw [<- aB.vd_fst lits p 0] at this;have:=congrArg (fun l=>l[j]?) this;simp only [List.getElem?_map,e1,hj,Option.map_some] at this;exact Option.some.inj this
      have n2:(r.getD j zdC).depth=v.2:=by
       have:=zjT hS hD;have:=congrArg (fun l=>l[j]?) this;simp only [List.getElem?_map,e1,hj,Option.map_some] at this;exact Option.some.inj this
      refine ⟨n1,?_⟩;have:=(ih p (by simp) hd f r (hv f (List.mem_of_mem_take hf)) hD _ e2).2;rw [n2,hd2] at this;exact this
    ·exact zac hk' ih' (by rw [List.length_drop];omega) (fun f hf=>hv f (List.mem_of_mem_drop hf)) hm2 y hy
   ·intro y hy;rcases List.mem_append.1 hy with hy | hy
    ·exact ih p (by simp) hd f h1 (hv f (by simp)) hf y hy
    ·exact zac hk' ih' (by simp at hl;omega) (fun g hg=>hv g (by simp [hg])) hm2 y hy
theorem zpE (bs:List aH) (lits:List aB):∀ (n:Nat) (p:aB),p.w<=n->zkw p->∀ f h,f.valid=true->p.mt bs lits f=some h->∀ y∈h,0<=y.depth/\zmQ y.depth.toNat y:=by
 intro n;induction n with
 | zero=>intro p h;have:=p.w_kids;omega
 | succ n ih =>
   intro p hp hs f h hf hm;have hw:=p.w_kids;obtain ⟨q1,q2,q3,q4,q5⟩:=hs.parts;have nil:∀ y∈([]:List Hit),0<=y.depth/\zmQ y.depth.toNat y:=fun y hy=>by cases hy
   rw [aB.mt_eq] at hm;by_cases h1:p.kind=1
   ·rw [decide_eq_true h1,cond_true] at hm;cases hu:decide (p.name=s8) with
    | true=>rw [hu] at hm;cases hm;exact nil
    | false =>
    rw [hu,cond_false] at hm;cases hi:inF lits p with
    | true =>
      rw [hi,cond_true] at hm;cases hr:(decide (f.kind=1)&&znv bs p f) with
      | true=>rw [hr] at hm;cases hm;exact nil
      | false=>rw [hr] at hm;cases hm
    | false =>
      rw [hi] at hm;cases hm;intro y hy;rw [List.mem_singleton] at hy;subst hy;exact ⟨Int.le_refl _,rfl,hf,rfl⟩
   ·rw [decide_eq_false h1,cond_false] at hm;by_cases h2:p.kind=2
    ·rw [decide_eq_true h2,cond_true] at hm;cases hr:same p f with
     | true=>rw [hr] at hm;cases hm;exact nil
     | false=>rw [hr] at hm;cases hm
    ·rw [decide_eq_false h2,cond_false] at hm;cases hr:decide (f.kind≠3) with
     | true=>rw [hr] at hm;cases hm
     | false =>
       rw [hr,cond_false] at hm;exact zac q4 (fun x hx hd=>ih x (by have:=aB.ws_mem hx;omega) ((q4 x hx).pat hd)) (znA hf) (fun x hx=>zkE hf hx) hm
theorem zpr {lits:List aB} {p:aB} (hp:∃ d,p.isOk d=true) {x:aB} (hx:x∈p.vs lits):zoy x=true:=by
 have hvar:=(aB.vs_part lits p x hx).1;unfold kF at hvar;simp only [Bool.and_eq_true,decide_eq_true_eq,Bool.not_eq_true',decide_eq_false_iff_not] at hvar;obtain ⟨d,hd⟩:=zsj lits _ p (Nat.le_refl _) hp x hx;obtain ⟨n1,n2⟩:=zk3 hd hvar.1;unfold zoy zfD;rw [decide_eq_true hvar.1,n1,decide_eq_false hvar.2.1,decide_eq_false hvar.2.2.1];rfl
theorem zoP:∀ {l:List Hit} {ps:List Hit},(∀ x∈l,x.isOk=true)->zev (ps.map Hit.name) (l.map Hit.name)=true->hvF ps l=true
 | [],ps,_,_=>by rw [hvF]
 | x::l,ps,h,hd=>by
   rw [List.map_cons,zev,Bool.and_eq_true] at hd;rw [hvF,Bool.and_eq_true,Bool.and_eq_true];refine ⟨h x (by simp),?_,zoP (fun y hy=>h y (by simp [hy])) (by rw [List.map_append];exact hd.2)⟩;have h1:=hd.1;unfold inF at h1;rw [Bool.not_not,oF] at h1;rw [oF];exact fun y hy=>h1 y.name (List.mem_map_of_mem hy)
theorem zsu {bs:List aH} {lits:List aB} {p f:aB} {h:List Hit} (hp:zC p lits=true) (hf:f.valid=true) (hm:p.mt bs lits f=some h):∀ x∈h,x.isOk=true:=by
 intro x hx;have hS:=zG hp;obtain ⟨g1,g2⟩:=zpE bs lits _ p (Nat.le_refl _) hS f h hf hm x hx;have hn:x.name∈p.vs lits:=by rw [<- zdF hS hm];exact List.mem_map_of_mem hx
 have hd:x.depth∈(p.vd lits 0).map (·.2):=by rw [<- zjT hS hm];exact List.mem_map_of_mem hx
 have h3:x.depth<=3:=by
  unfold zC at hp;simp only [Bool.and_eq_true] at hp;have:=hp.2.2.2.1.2;unfold zlO at this;rw [oF] at this;have:=this _ hd;simpa using this
 exact zmQ.isOk _ x (by omega) g2 (zpr hS.ok hn)
theorem zsv {bs:List aH} {lits:List aB} {p f:aB} {h:List Hit} (hp:zC p lits=true) (hf:f.valid=true) (hm:p.mt bs lits f=some h):zgY h=true:=by
 have hS:=zG hp;have hn:=zdF hS hm;have h1:=zoP (l:=h) (ps:=[]) (zsu hp hf hm) (by
  rw [hn];unfold zC at hp;simp only [Bool.and_eq_true] at hp;exact hp.2.2.2.1.1)
 have h2:(h.length:Int)<=20:=by
  have:=congrArg List.length hn;rw [List.length_map] at this;unfold zC at hp;simp only [Bool.and_eq_true,decide_eq_true_eq] at hp;have:=hp.2.2.2.2;omega
 unfold zgY;rw [h1,decide_eq_true h2];rfl
theorem xI:∀ (a b:List aB),aB.cnts (a++b)=aB.cnts a+aB.cnts b
 | [],b=>by rw [List.nil_append,aB.cnts,Nat.zero_add]
 | x::a,b=>by rw [List.cons_append,aB.cnts,aB.cnts,xI a b];omega
end Go.Abs
end
section
set_option linter.unusedVariables false
set_option linter.unusedSimpArgs false
namespace Go.Abs
theorem zk7:∀ {l ps:List Hit},hvF ps l=true->∀ h∈l,∀ p∈ps,same p.name h.name=false
 | x::xs,ps,hv,h,hh,p,hp=>by
   rw [hvF,Bool.and_eq_true,Bool.and_eq_true] at hv;rcases List.mem_cons.1 hh with rfl | hh
   ·have:=oF.1 hv.2.1 p hp;simpa using this
   ·exact zk7 hv.2.2 h hh p (List.mem_append_left _ hp)
theorem zrM:∀ {l ps:List Hit},hvF ps l=true->∀ h∈l,zkm (nd l) h.name=h.depth
 | x::xs,ps,hv,h,hh=>by
   have hv':=hv;rw [hvF,Bool.and_eq_true,Bool.and_eq_true] at hv
   show zkm ((x.name,x.depth)::nd xs) h.name=h.depth
   rw [zkm];rcases List.mem_cons.1 hh with rfl | hh
   ·rw [qG,cond_true]
   ·rw [zk7 hv.2.2 h hh x (by simp),cond_false];exact zrM hv.2.2 h hh
end Go.Abs
end
section
set_option linter.unusedVariables false
set_option linter.unusedSimpArgs false
namespace Go.Abs
theorem zh5 (l:List aH) (f:aB) (hl:l.length<=2 ^ 36) (hb:∀ b∈l,b.fit) (hf:f.fit) (hv:zmP l=true) (hn:zfD f=true) :
  Tr (fun m=>nW m l f) (bif decide ((ziW l f).2=1) then (bAt l (ziW l f).1).id else 0,(ziW l f).2):=by
 refine Tr.eq (fun m=>by unfold nW;rfl) (Tr.bind (vA l (by omega) hb) ?_);rw [hv];refine Tr.ff rfl (Tr.bind (t7 f hf) ?_);rw [hn];refine Tr.step (fun m=>by rw [kK,Bool.not_true,cond_false]) (Tr.bind (zri l f hl) ?_);rcases zg l f with ⟨i,ha,i0,i1⟩ | ha | ha
 ·rw [ha];exact Tr.ff (by simp) (Tr.eq (fun m=>by rw [zcN i0 i1,Option.bind_some];rfl) Tr.val)
 ·rw [ha];exact Tr.tt (by simp) Tr.val
 ·rw [ha];exact Tr.tt (by simp) Tr.val
theorem znJ (l:List aH) (a b:aB) (hl:l.length<=2 ^ 36) (hb:∀ b∈l,b.fit) (ha:a.fit) (hbf:b.fit) :
  Tr (fun m=>k7 m l a b) (zmP l&&(zfD a&&(zfD b&&znv l a b))):=by
 refine Tr.eq (fun m=>by unfold k7;rfl) (Tr.bind (vA l (by omega) hb) ?_);have no:Tr (fun m=>b6 m l a b true) false:=Tr.step (fun m=>by rw [b6,cond_true]) Tr.val;cases hv:zmP l with
 | false=>exact Tr.tt rfl no
 | true =>
 refine Tr.ff rfl (Tr.bind (t7 a ha) ?_);cases hna:zfD a with
 | false=>exact Tr.tt rfl no
 | true =>
 refine Tr.ff rfl (Tr.bind (t7 b hbf) ?_);cases hnb:zfD b with
 | false=>exact no
 | true =>
 refine Tr.step (fun m=>by rw [b6,Bool.not_true,cond_false]) (Tr.bind (zh5 l a hl hb ha hv hna) (Tr.bind (zh5 l b hl hb hbf hv hnb) ?_));rw [Bool.true_and,Bool.true_and,Bool.true_and];unfold znv;rcases zg l a with ⟨i,ea,i0,i1⟩ | ea | ea<;>rcases zg l b with ⟨j,eb,j0,j1⟩ | eb | eb<;>rw [ea,eb]
 ·refine Tr.tt rfl (Tr.tt rfl ?_);by_cases h:(bAt l i).id=(bAt l j).id
  ·exact Tr.tt (by simpa using h) (by simpa [h] using Tr.val)
  ·exact Tr.ff (by simpa using h) (Tr.ff (by simp) (by simpa [h] using Tr.val))
 ·exact Tr.tt rfl (Tr.ff (by simp) (Tr.ff (by simp) (by simpa using Tr.val)))
 ·exact Tr.tt rfl (Tr.ff (by simp) (Tr.ff (by simp) (by simpa using Tr.val)))
 ·exact Tr.ff (by simp) (Tr.ff (by simp) (by simpa using Tr.val))
 ·exact Tr.ff (by simp) (Tr.ff (by simp) (by simpa using Tr.val))
 ·exact Tr.ff (by simp) (Tr.ff (by simp) (by simpa using Tr.val))
 ·exact Tr.ff (by simp) (Tr.tt rfl (Tr.ff (by simp) (by simpa using Tr.val)))
 ·exact Tr.ff (by simp) (Tr.tt rfl (Tr.ff (by simp) (by simpa using Tr.val)))
 ·exact Tr.ff (by simp) (Tr.tt rfl (Tr.tt rfl (by simpa using Tr.val)))
def oR (o:Option (List Hit)):List Hit × Bool:=(o.getD [],o.isSome)
def zkv (acc:List Hit) (o:Option (List Hit)):Option (List Hit):=o.map (acc++·)
theorem zpD (acc:List Hit) (a b:Option (List Hit)):zkv acc (zlH a b)=match a with
  | none=>none
  | some h=>zkv (acc++h) b:=by
 cases a<;>cases b<;>simp [zkv,zlH]
theorem zpS (l:List aB):Tr (fun m=>oL m l) (fnd aN l 0):=by
 refine Tr.eq (fun m=>by unfold oL;rfl) (Tr.bind ?_ Tr.val);refine Tr.eq (fun m=>by unfold dC;rfl) ?_;exact mS (L:=fun m i=>aS m l i) (E:=fun m y=>l6 m y) (fun m i=>by rw [aS]) (fun y _=>Tr.eq (fun m=>by unfold l6;rfl) (Tr.bind (tT _ _) Tr.val))
theorem zpd {α:Type} {D:α->Bool}:∀ {xs:List α} {y:α} {zs:List α} {k:Nat},(∀ x∈xs,D x=false)->D y=true->fnd D (xs++y::zs) k=((k+xs.length:Nat):Int)
 | [],y,zs,k,_,hy=>by rw [List.nil_append,fnd,hy,cond_true];simp
 | x::xs,y,zs,k,h,hy=>by
   rw [List.cons_append,fnd,h x (by simp),cond_false,zpd (fun z hz=>h z (by simp [hz])) hy,List.length_cons];congr 1;omega
theorem zlk:∀ {l:List aB},qF l=0->∀ x∈l,aN x=false
 | y::ys,h,x,hx=>by
   rw [qF] at h;rcases List.mem_cons.1 hx with rfl | hx
   ·cases hd:aN x with
    | false=>rfl
    | true=>rw [hd] at h;simp at h
   ·exact zlk (by omega) x hx
theorem zjs:∀ {l:List aB},qF l<=1->(∀ x∈l,aN x=false)∨∃ xs y zs,l=xs++y::zs/\(∀ x∈xs,aN x=false)/\aN y=true/\∀ x∈zs,aN x=false
 | [],_=>.inl (fun x hx=>by cases hx)
 | y::ys,h=>by
   rw [qF] at h;cases hd:aN y with
   | true =>
     rw [hd,cond_true] at h;exact .inr ⟨[],y,ys,rfl,(fun x hx=>by cases hx),hd,zlk (by omega)⟩
   | false =>
     rw [hd,cond_false] at h;rcases zjs (l:=ys) (by omega) with h1 | ⟨xs,z,zs,rfl,h2,h3,h4⟩
     ·exact .inl (fun x hx=>by
       rcases List.mem_cons.1 hx with rfl | hx
       ·exact hd
       ·exact h1 x hx)
     ·exact .inr ⟨y::xs,z,zs,rfl,(fun x hx=>by
       rcases List.mem_cons.1 hx with rfl | hx
       ·exact hd
       ·exact h2 x hx),h3,h4⟩
theorem zm4 {l:List aB} (h:∀ x∈l,aN x=false):fD l=false:=by
 cases l with
 | nil=>rfl
 | cons y ys=>exact h y (by simp)
theorem zrO {α:Type} {D:α->Bool}:∀ {l:List α} {k:Nat},(∀ x∈l,D x=false)->fnd D l k=-1
 | [],_,_=>rfl
 | x::xs,k,h=>by rw [fnd,h x (by simp),cond_false,zrO (fun y hy=>h y (by simp [hy]))]
theorem u0 {α:Type} {l xs:List α} {x:α} {k:Nat} (h:l.drop k=x::xs):l[k]?=some x/\l.drop (k+1)=xs/\k < l.length:=by
 have h1:l[k]?=some x:=by have:=congrArg (fun l=>l[0]?) h;simpa using this
 exact ⟨h1,by rw [<- List.drop_drop,h];rfl,(List.getElem?_eq_some_iff.1 h1).1⟩
theorem tF:∀ (vs:List (aB × Int)) (k:Nat) (rows:List (List Hit)),(rZ k vs rows).length=vs.length
 | [],_,_=>rfl
 | v::vs,k,rows=>by rw [rZ,List.length_cons,List.length_cons,tF vs]
theorem zjM:∀ {vs:List (aB × Int)} {k j:Nat} {rows:List (List Hit)} {v:aB × Int},vs[j]?=some v->(rZ k vs rows)[j]?=some (Hit.mk v.1 (v.2+1) mF (rows.map fun r=>r.getD (k+j) zdC))
 | x::xs,k,0,rows,v,h=>by simp at h;subst h;rfl
 | x::xs,k,j+1,rows,v,h=>by
   rw [rZ,List.getElem?_cons_succ,zjM (vs:=xs) (by simpa using h),Nat.add_assoc,Nat.add_comm 1 j]
structure znw (bs:List aH) (lits:List aB) (P F:aB):Prop where
 kid:∀ x∈P.kids,zko x
 ih:∀ x∈P.kids,aN x=false->∀ f∈F.kids,Tr (fun m=>jS m bs x lits f) (oR (x.mt bs lits f))
 wp:aB.ws P.kids<=2 ^ 17
 wf:aB.ws F.kids<=2 ^ 17
section
variable {bs:List aH} {lits:List aB} {P F:aB}
theorem zdQ (hS:znw bs lits P F) {x f:aB} (hx:x∈P.kids) (hd:aN x=false) {h:List Hit} (hm:x.mt bs lits f=some h):h.length<=x.w:=by
 rw [zkz ((hS.kid x hx).pat hd) hm];exact aB.vd_len lits x 0
theorem zhC (hS:znw bs lits P F) {x f:aB} (hx:x∈P.kids) (hd:aN x=false) (hf:f∈F.kids) {acc:List Hit} (ha:acc.length<=2 ^ 20) :
  Tr (fun m=>lO m x f bs lits acc) ((x.mt bs lits f).isSome,acc++(x.mt bs lits f).getD []):=by
 refine Tr.step (fun m=>by rw [lO]) (Tr.bind (hS.ih x hx hd f hf) ?_);have hw:=aB.ws_mem hx;have h1:=hS.wp;refine Tr.chk (decide_eq_true ?_) Tr.val;cases hm:x.mt bs lits f with
 | none=>simp [oR];omega
 | some h =>
   have:=zdQ hS hx hd hm;simp [oR];omega
theorem zlY {x f:aB} {xs fs:List aB} (hd:aN x=false) (hn:fD xs=false):aB.mts bs lits (x::xs) (f::fs)=zlH (x.mt bs lits f) (aB.mts bs lits xs fs):=by
 rw [aB.mts_eq,hd,cond_false,hn,cond_false]
theorem zlX {acc:List Hit} {b:Option (List Hit)}:oR (zkv acc (zlH none b))=([],false):=by cases b<;>rfl
theorem zjA {acc h:List Hit} {b:Option (List Hit)}:oR (zkv acc (zlH (some h) b))=oR (zkv (acc++h) b):=by rw [zpD]
theorem zrH {acc:List Hit}:oR (zkv acc (some []))=(acc,true):=by simp [oR,zkv]
theorem zo8:aB.mts bs lits [] []=some []:=by rw [aB.mts];rfl
theorem zhY (hS:znw bs lits P F) (hl:P.kids.length=F.kids.length):∀ (rest:List aB) (k:Nat) (acc:List Hit),P.kids.drop k=rest->k<=P.kids.length->(∀ x∈rest,aN x=false)->acc.length+aB.ws rest<=2 ^ 20 ->
  Tr (fun m=>jZ m bs P lits F (k:Int) acc) (oR (zkv acc (aB.mts bs lits rest (F.kids.drop k))))
 | [],k,acc,hd,hk,hn,ha=>by
   have:k=P.kids.length:=by have:=congrArg List.length hd;rw [List.length_drop] at this;simp at this;omega
   subst this;rw [hl,List.drop_length,zo8,zrH];refine Tr.step (fun m=>by rw [jZ,hl,aP,cond_false]) (Tr.step (fun m=>by rw [qQ]) Tr.val)
 | x::xs,k,acc,hd,hk,hn,ha=>by
   obtain ⟨hx,hd2,hlt⟩:=u0 hd;have hdx:=hn x (by simp);have hy:F.kids[k]?=some F.kids[k]:=List.getElem?_eq_getElem (by omega);have hdr:F.kids.drop k=F.kids[k]::F.kids.drop (k+1):=List.drop_eq_getElem_cons (by omega);rw [aB.ws] at ha;refine Tr.step (fun m=>by rw [jZ,ltN hlt,cond_true,aK hx,Option.bind_some,aK hy,Option.bind_some]) ?_;refine Tr.bind (zhC hS (List.mem_of_getElem? hx) hdx (List.mem_of_getElem? hy) (by omega)) ?_;rw [hdr,zlY hdx (zm4 (fun z hz=>hn z (by simp [hz])))];cases hm:x.mt bs lits F.kids[k] with
   | none=>rw [zlX];exact Tr.tt rfl Tr.val
   | some h =>
     rw [zjA];have hw:=zdQ hS (List.mem_of_getElem? hx) hdx hm;refine Tr.ff rfl (Tr.eq (fun m=>by rw [cQ];rfl) (zhY hS hl xs (k+1) (acc++h) hd2 hlt (fun z hz=>hn z (by simp [hz])) (by rw [List.length_append];omega)))
structure tE (P F:aB) (xs:List aB) (pr dd:aB) (tail:List aB):Prop where
 eq:P.kids=xs++pr::dd::tail
 pre:∀ x∈xs,aN x=false
 row:aN pr=false
 dots:aN dd=true
 post:∀ x∈tail,aN x=false
 len:xs.length+tail.length<=F.kids.length
def tE.many (F:aB) (xs tail:List aB):Nat:=F.kids.length-(xs.length+tail.length)
variable {xs tail:List aB} {pr dd:aB}
theorem tE.plen (hR:tE P F xs pr dd tail):P.kids.length=xs.length+2+tail.length:=by rw [hR.eq];simp;omega
theorem tE.lens (hS:znw bs lits P F) (hR:tE P F xs pr dd tail):P.kids.length<=2 ^ 17/\F.kids.length<=2 ^ 17:=⟨Nat.le_trans (aB.ws_len _) hS.wp,Nat.le_trans (aB.ws_len _) hS.wf⟩
theorem tE.at_pr (hR:tE P F xs pr dd tail):P.kids[xs.length]?=some pr:=by rw [hR.eq];simp
theorem tE.many_eq (hS:znw bs lits P F) (hR:tE P F xs pr dd tail):w64 ((F.kids.length:Int)-(w64 ((P.kids.length:Int)-2)))=((tE.many F xs tail:Nat):Int):=by
 have h1:=tE.lens hS hR;have h2:=hR.plen;have h3:=hR.len;rw [bT (n:=(P.kids.length:Int)-2) (by omega),bT (by omega)];unfold tE.many;omega
theorem tE.row_eq (hS:znw bs lits P F) (hR:tE P F xs pr dd tail):w64 ((((xs.length+1:Nat):Int))-1)=((xs.length:Nat):Int):=by
 have h1:=tE.lens hS hR;have h2:=hR.plen;rw [bT (by omega)];omega
theorem zfL (hS:znw bs lits P F) (hR:tE P F xs pr dd tail):∀ (rest:List aB) (j:Nat) (acc:List Hit),tail.drop j=rest->j<=tail.length->acc.length+aB.ws rest<=2 ^ 20 ->
  Tr (fun m=>i5 m bs P lits F ((xs.length+1:Nat):Int) ((xs.length+2+j:Nat):Int) acc) (oR (zkv acc (aB.mts bs lits rest (F.kids.drop (xs.length+tE.many F xs tail+j)))))
 | [],j,acc,hd,hj,ha=>by
   have:j=tail.length:=by have:=congrArg List.length hd;rw [List.length_drop] at this;simp at this;omega
   subst this;have h2:=hR.plen;have h3:=hR.len;have e:xs.length+tE.many F xs tail+tail.length=F.kids.length:=by unfold tE.many;omega
   rw [e,List.drop_length,zo8,zrH];exact Tr.step (fun m=>by rw [i5,<- h2,aP,cond_false]) Tr.val
 | x::rest,j,acc,hd,hj,ha=>by
   obtain ⟨hx0,hd2,hlt⟩:=u0 hd;have h1:=tE.lens hS hR;have h2:=hR.plen;have h3:=hR.len;have hm:=tE.many_eq hS hR;have hr:=tE.row_eq hS hR;have hx:P.kids[xs.length+2+j]?=some x:=by
    rw [hR.eq,List.getElem?_append_right (by omega)];rw [show xs.length+2+j-xs.length=j+1+1 by omega,List.getElem?_cons_succ,List.getElem?_cons_succ];exact hx0
   have hdx:=hR.post x (List.mem_of_getElem? hx0);have e:xs.length+tE.many F xs tail+tail.length=F.kids.length:=by unfold tE.many;omega
   generalize hM:tE.many F xs tail=M at *;have hq:xs.length+M+j < F.kids.length:=by omega
   have hy:F.kids[xs.length+M+j]?=some F.kids[xs.length+M+j]:=List.getElem?_eq_getElem hq;have hdr:F.kids.drop (xs.length+M+j)=F.kids[xs.length+M+j]::F.kids.drop (xs.length+M+j+1):=List.drop_eq_getElem_cons hq;have hidx:w64 ((w64 ((w64 ((w64 ((w64 (((xs.length+1:Nat):Int)-1))+(w64 ((F.kids.length:Int)-(w64 ((P.kids.length:Int)-2))))))+((xs.length+2+j:Nat):Int)))-((xs.length+1:Nat):Int)))-1)=((xs.length+M+j:Nat):Int):=by
    rw [hm,hr,bT (n:=((xs.length:Nat):Int)+(M:Int)) (by omega),bT (n:=((xs.length:Nat):Int)+(M:Int)+((xs.length+2+j:Nat):Int)) (by omega),bT (n:=((xs.length:Nat):Int)+(M:Int)+((xs.length+2+j:Nat):Int)-((xs.length+1:Nat):Int)) (by omega),bT (by omega)];omega
   rw [aB.ws] at ha;refine Tr.step (fun m=>by rw [i5,ltN (show xs.length+2+j < P.kids.length by omega),cond_true,aK hx,Option.bind_some,hidx,aK hy,Option.bind_some]) ?_;refine Tr.bind (zhC hS (List.mem_of_getElem? hx) hdx (List.mem_of_getElem? hy) (by omega)) ?_;have hnd:fD rest=false:=zm4 (fun z hz=>hR.post z (by rw [<- hd2] at hz;exact List.mem_of_mem_drop hz));rw [hdr,zlY hdx hnd];cases hmt:x.mt bs lits F.kids[xs.length+M+j] with
   | none=>rw [zlX];exact Tr.tt rfl Tr.val
   | some h =>
     rw [zjA];have hw:=zdQ hS (List.mem_of_getElem? hx) hdx hmt;have:=zfL hS hR rest (j+1) (acc++h) hd2 hlt (by rw [List.length_append];omega);rw [hM] at this;exact Tr.ff rfl (Tr.eq (fun m=>by rw [cQ];rfl) this)
end
end Go.Abs
end
section
set_option linter.unusedVariables false
set_option linter.unusedSimpArgs false
namespace Go.Abs
section
variable {bs:List aH} {lits:List aB} {P F:aB} {xs tail:List aB} {pr dd:aB}
theorem zgU:∀ {l:List aB},(∀ x∈l,aN x=false)->qF l=0
 | [],_=>rfl
 | y::ys,h=>by rw [qF,h y (by simp),cond_false,zgU (fun x hx=>h x (by simp [hx]))]
theorem znh:∀ (a b:List aB),qF (a++b)=qF a+qF b
 | [],b=>by simp [qF]
 | x::a,b=>by rw [List.cons_append,qF,qF,znh a b];omega
theorem zo1 {α:Type} (l:List α) (z v:α):(l++[z]).set (l.length:Int).toNat v=l++[v]:=by
 rw [Int.toNat_natCast,List.set_append_right _ _ (Nat.le_refl _),Nat.sub_self];rfl
theorem zm9 {α:Type} (l:List α) (z:α):idx (l++[z]) (l.length:Int)=some z:=aK (by simp)
theorem zmd (v11:Int) (g34:List Hit) (v49:List aB) (g50:Int) (vs:List (aB × Int)) (rows:List (List Hit)) (inner:List Hit) (b:Bool) (hi:inner.length=vs.length) (hr:rows.length<=2 ^ 20) (hv:vs.length<=2 ^ 20) {v:List Hit × Bool}
  (hK:Tr (fun m=>gJ m bs P lits F v11 g34 v49 (w64 (g50+1)) (rZ 0 vs (rows++[inner]))) v) (g51:List Hit) (hg:g51.length=vs.length) :
  Tr (fun m=>iJ m bs P lits F v11 g34 v49 g50 g51 (inner,b) 0 (rZ 0 vs rows)) v:=by
 have key:=aX vs (fun k zs=>Tr (fun m=>iJ m bs P lits F v11 g34 v49 g50 g51 (inner,b) (k:Int) ((rZ 0 vs (rows++[inner])).take k++(rZ 0 vs rows).drop k)) v) ?_ ?_ 0 (Nat.zero_le _)
 ·simpa using key
 ·have e1:(rZ 0 vs (rows++[inner])).take vs.length=rZ 0 vs (rows++[inner]):=List.take_of_length_le (by rw [tF];exact Nat.le_refl _);have e2:(rZ 0 vs rows).drop vs.length=[]:=List.drop_of_length_le (by rw [tF];exact Nat.le_refl _);rw [e1,e2,List.append_nil];exact Tr.step (fun m=>by rw [iJ,hg,aP,cond_false]) hK
 ·intro k x zs hk hx hd ih;have hl1:(rZ 0 vs (rows++[inner])).length=vs.length:=tF _ _ _;have hl2:(rZ 0 vs rows).length=vs.length:=tF _ _ _;have ht:((rZ 0 vs (rows++[inner])).take k).length=k:=by rw [List.length_take,hl1];omega
  have g1:=zjM (k:=0) (rows:=rows) hx;have g2:=zjM (k:=0) (rows:=rows++[inner]) hx;rw [Nat.zero_add] at g1 g2;have hget:((rZ 0 vs (rows++[inner])).take k++(rZ 0 vs rows).drop k)[k]?=some (Hit.mk x.1 (x.2+1) mF (rows.map fun r=>r.getD k zdC)):=by
   rw [List.getElem?_append_right (by omega),ht,Nat.sub_self,List.getElem?_drop,Nat.add_zero];exact g1
  have hin:inner[k]?=some (inner.getD k zdC):=by
   have:k < inner.length:=by omega
   rw [List.getD_eq_getElem?_getD,List.getElem?_eq_getElem this];rfl
  have hset:((rZ 0 vs (rows++[inner])).take k++(rZ 0 vs rows).drop k).set (k:Int).toNat (Hit.mk x.1 (x.2+1) mF ((rows.map fun r=>r.getD k zdC)++[inner.getD k zdC]))=(rZ 0 vs (rows++[inner])).take (k+1)++(rZ 0 vs rows).drop (k+1):=by
   have h3:(rZ 0 vs rows).drop k=Hit.mk x.1 (x.2+1) mF (rows.map fun r=>r.getD k zdC)::(rZ 0 vs rows).drop (k+1):=zjX g1;rw [Int.toNat_natCast,List.set_append_right _ _ (by omega),ht,Nat.sub_self,h3,List.set_cons_zero,List.take_add_one,g2,List.append_assoc];simp
  refine Tr.step (fun m=>by rw [iJ,hg,ltN hk,cond_true,aK hget,Option.bind_some,aK hin,Option.bind_some]) ?_;refine Tr.chk (decide_eq_true (by simp [Hit.many];omega)) ?_;refine Tr.eq (fun m=>by rw [zm9,Option.bind_some,Option.bind_some,bT (by omega),cQ,zo1]) ?_;simp only [Hit.name,Hit.depth,Hit.one,Hit.many];rw [hset];exact ih
theorem zme (hS:znw bs lits P F) (hR:tE P F xs pr dd tail) (g34:List Hit) (v49:List aB) (hv:∀ f∈v49,f∈F.kids) (hvl:v49.length<=F.kids.length) (J:List Hit->List Hit × Bool)
  (hJ:∀ rows,rows.length=v49.length->(∀ r∈rows,r.length=(pr.vd lits 0).length)->Tr (fun m=>lZ m bs P lits F ((xs.length+1:Nat):Int) g34 (rZ 0 (pr.vd lits 0) rows)) (J (rZ 0 (pr.vd lits 0) rows))) :
  Tr (fun m=>gJ m bs P lits F ((xs.length+1:Nat):Int) g34 v49 0 (rZ 0 (pr.vd lits 0) [])) (match zcx (fun f=>pr.mt bs lits f) v49 with
   | none=>([],false)
   | some rows=>J (rZ 0 (pr.vd lits 0) rows)):=by
 have h1:=tE.lens hS hR;have h2:=hR.plen;have hpm:=List.mem_of_getElem? hR.at_pr;have hpp:zkw pr:=(hS.kid pr hpm).pat hR.row;have hpw:=aB.ws_mem hpm;have hwp:=hS.wp;have hvd:=aB.vd_len lits pr 0;have key:=aX v49 (fun k zs=>∀ rows:List (List Hit),rows.length=k->(∀ r∈rows,r.length=(pr.vd lits 0).length)->Tr (fun m=>gJ m bs P lits F ((xs.length+1:Nat):Int) g34 v49 (k:Int) (rZ 0 (pr.vd lits 0) rows)) (match zcx (fun f=>pr.mt bs lits f) zs with
   | none=>([],false)
   | some ys=>J (rZ 0 (pr.vd lits 0) (rows++ys)))) ?_ ?_ 0 (Nat.zero_le _) [] rfl (fun r hr=>by cases hr)
 ·simpa using key
 ·intro rows hr hl;rw [zcx];simp only [List.append_nil];exact Tr.step (fun m=>by rw [gJ,aP,cond_false]) (hJ rows hr hl)
 ·intro k x zs hk hx hd ih rows hr hl;refine Tr.step (fun m=>by rw [gJ,ltN hk,cond_true,aK hx,Option.bind_some,tE.row_eq hS hR,aK hR.at_pr,Option.bind_some]) ?_;refine Tr.bind (hS.ih pr hpm hR.row x (hv x (List.mem_of_getElem? hx))) ?_;rw [zcx];cases hm:pr.mt bs lits x with
  | none=>exact Tr.tt rfl Tr.val
  | some h =>
    have hlen:=zkz hpp hm;refine Tr.ff rfl ?_;refine Tr.eq (fun m=>rfl) (zmd (bs:=bs) (lits:=lits) (P:=P) (F:=F) ((xs.length+1:Nat):Int) g34 v49 (k:Int) (pr.vd lits 0) rows h true hlen (by omega) (by omega) ?_ _ (tF _ _ _));refine Tr.eq (fun m=>by rw [bT (by omega),cQ]) ?_;have:=ih (rows++[h]) (by simp [hr]) (fun r hr'=>by
     rcases List.mem_append.1 hr' with hr' | hr'
     ·exact hl r hr'
     ·rw [List.mem_singleton.1 hr'];exact hlen)
    cases ha:zcx (fun f=>pr.mt bs lits f) zs with
    | none=>rw [ha] at this;exact this
    | some ys =>
      rw [ha] at this;simp only [List.append_assoc,List.singleton_append] at this;exact this
theorem zmf (v11:Int) (g34:List Hit) (vs:List (aB × Int)) (hw:∀ v∈vs,v.1.w<=2 ^ 30) (h0:∀ v∈vs,0<=v.2/\v.2<=2 ^ 30) (hl:vs.length<=2 ^ 20) {r:List Hit × Bool}
  (hK:Tr (fun m=>nU m bs P lits F v11 g34 (rZ 0 vs [])) r):Tr (fun m=>iK m bs P lits F v11 g34 (vs.map (·.1),vs.map (·.2)) ([]:List Hit) 0) r:=by
 have key:=aX vs (fun k zs=>∀ g:List Hit,g.length=k->g++rZ k zs []=rZ 0 vs []->Tr (fun m=>iK m bs P lits F v11 g34 (vs.map (·.1),vs.map (·.2)) g (k:Int)) r) ?_ ?_ 0 (Nat.zero_le _) [] rfl (by rw [List.nil_append,List.drop_zero])
 ·exact key
 ·intro g hg he;rw [rZ,List.append_nil] at he;rw [he];exact Tr.step (fun m=>by rw [iK,List.length_map,aP,cond_false]) hK
 ·intro k v zs hk hx hd ih g hg he;have hx1:(vs.map (·.1))[k]?=some v.1:=by rw [List.getElem?_map,hx];rfl
  have hx2:(vs.map (·.2))[k]?=some v.2:=by rw [List.getElem?_map,hx];rfl
  have hm:=List.mem_of_getElem? hx;have hvw:=hw v hm;have V0:=h0 v hm;refine Tr.step (fun m=>by rw [iK,List.length_map,ltN hk,cond_true,aK hx1,Option.bind_some]) (Tr.bind (u3 v.1 (by omega)) ?_);refine Tr.eq (fun m=>by rw [aK hx2,Option.bind_some,bT (n:=v.2+1) (by omega),cQ]) (Tr.chk (decide_eq_true (by simp;omega)) ?_);refine ih (g++[Hit.mk v.1 (v.2+1) mF []]) (by simp [hg]) ?_;rw [rZ] at he;rw [List.append_assoc];exact he
theorem zst (hS:znw bs lits P F) (hR:tE P F xs pr dd tail):aB.mts bs lits (pr::dd::tail) (F.kids.drop xs.length)=match zcx (fun f=>pr.mt bs lits f) ((F.kids.drop xs.length).take (tE.many F xs tail)) with
  | none=>none
  | some rows=>zlH (some (rZ 0 (pr.vd lits 0) rows)) (aB.mts bs lits tail (F.kids.drop (xs.length+tE.many F xs tail))):=by
 have h3:=hR.len;have hl:(F.kids.drop xs.length).length=F.kids.length-xs.length:=List.length_drop;have hN:(F.kids.drop xs.length).length+1-(dd::tail).length=tE.many F xs tail:=by rw [hl,List.length_cons];unfold tE.many;omega
 rw [aB.mts_eq,hR.row,cond_false,show fD (dd::tail)=aN dd from rfl,hR.dots,cond_true,decide_eq_false (by rw [hl,List.length_cons];omega),cond_false,hN];cases zcx (fun f=>pr.mt bs lits f) ((F.kids.drop xs.length).take (tE.many F xs tail)) with
 | none=>rfl
 | some rows=>simp only;rw [aB.mts_eq bs lits dd,hR.dots,cond_true,List.drop_drop]
theorem zmg (hS:znw bs lits P F) (hR:tE P F xs pr dd tail) (acc:List Hit) (ha:acc.length<=2 ^ 18):Tr (fun m=>nV m bs P lits F ((xs.length+1:Nat):Int) acc) (oR (zkv acc (aB.mts bs lits (pr::dd::tail) (F.kids.drop xs.length)))):=by
 have h1:=tE.lens hS hR;have h2:=hR.plen;have h3:=hR.len;have hpm:=List.mem_of_getElem? hR.at_pr;have hpp:zkw pr:=(hS.kid pr hpm).pat hR.row;have hpw:=aB.ws_mem hpm;have hwp:=hS.wp;have hvd:=aB.vd_len lits pr 0;have hhi:=aB.vd_hi lits pr 0;have hnn:=aB.vd_nn lits pr 0;refine Tr.step (fun m=>by rw [nV,tE.row_eq hS hR,aK hR.at_pr,Option.bind_some]) (Tr.bind (zht pr lits (by omega)) ?_);have hvw:∀ v∈pr.vd lits 0,v.1.w<=2 ^ 30:=fun v hv=>by
  have hm:v.1∈pr.vs lits:=by rw [<- aB.vd_fst lits pr 0];exact List.mem_map.2 ⟨v,hv,rfl⟩
  have:=aB.vs_w lits pr v.1 hm;omega
 refine zmf (bs:=bs) (lits:=lits) (P:=P) (F:=F) _ acc (pr.vd lits 0) hvw (fun v hv=>⟨hnn v hv,by have:=hhi v hv;omega⟩) (by omega) ?_;have hsub:sub F.kids ((xs.length:Nat):Int) ((xs.length+tE.many F xs tail:Nat):Int)=some ((F.kids.drop xs.length).take (tE.many F xs tail)):=by
  have hle:xs.length+tE.many F xs tail<=F.kids.length:=by unfold tE.many;omega
  unfold sub;rw [decide_eq_true (by omega),decide_eq_true (by omega),decide_eq_true (by omega)];simp only [Bool.and_self,cond_true,Int.toNat_natCast,Option.some.injEq];rw [List.take_drop]
 have hbnd:tE.many F xs tail<=F.kids.length:=by unfold tE.many;omega
 refine Tr.step (fun m=>by rw [nU,tE.row_eq hS hR,tE.many_eq hS hR,bT (n:=((xs.length:Nat):Int)+((tE.many F xs tail:Nat):Int)) (by omega),show ((xs.length:Nat):Int)+((tE.many F xs tail:Nat):Int)=((xs.length+tE.many F xs tail:Nat):Int) by simp,hsub,Option.bind_some]) ?_;have hj7:∀ rows:List (List Hit),Tr (fun m=>lZ m bs P lits F ((xs.length+1:Nat):Int) acc (rZ 0 (pr.vd lits 0) rows)) (oR (zkv (acc++rZ 0 (pr.vd lits 0) rows) (aB.mts bs lits tail (F.kids.drop (xs.length+tE.many F xs tail))))):=fun rows=>by
  have hrl:=tF (pr.vd lits 0) 0 rows;refine Tr.step (fun m=>by rw [lZ]) (Tr.chk (decide_eq_true (by omega)) ?_);have htw:aB.ws tail<=aB.ws P.kids:=by
   rw [hR.eq,aB.ws_append,aB.ws,aB.ws];omega
  have:=zfL hS hR tail 0 (acc++rZ 0 (pr.vd lits 0) rows) (by rw [List.drop_zero]) (Nat.zero_le _) (by rw [List.length_append,hrl];omega);refine Tr.eq (fun m=>by rw [bT (by omega),cQ]) ?_;exact this
 have h8:=zme hS hR acc ((F.kids.drop xs.length).take (tE.many F xs tail)) (fun f hf=>List.mem_of_mem_drop (List.mem_of_mem_take hf)) (by rw [List.length_take,List.length_drop];omega)
  (fun hits=>oR (zkv (acc++hits) (aB.mts bs lits tail (F.kids.drop (xs.length+tE.many F xs tail))))) (fun rows _ _=>hj7 rows)
 rw [zst hS hR];cases ha:zcx (fun f=>pr.mt bs lits f) ((F.kids.drop xs.length).take (tE.many F xs tail)) with
 | none=>rw [ha] at h8;exact h8
 | some rows=>rw [ha] at h8;simp only;rw [zjA];exact h8
theorem zhX (hS:znw bs lits P F) (hR:tE P F xs pr dd tail):∀ (rest:List aB) (k:Nat) (acc:List Hit),xs.drop k=rest->k<=xs.length->acc.length+aB.ws rest<=2 ^ 18 ->
  Tr (fun m=>jY m bs P lits F ((xs.length+1:Nat):Int) (k:Int) acc) (oR (zkv acc (aB.mts bs lits (rest++pr::dd::tail) (F.kids.drop k))))
 | [],k,acc,hd,hk,ha=>by
   have:k=xs.length:=by have:=congrArg List.length hd;rw [List.length_drop] at this;simp at this;omega
   subst this;rw [List.nil_append];exact Tr.step (fun m=>by rw [jY,tE.row_eq hS hR,aP,cond_false]) (zmg hS hR acc (by omega))
 | x::rest,k,acc,hd,hk,ha=>by
   obtain ⟨hx0,hd2,hlt⟩:=u0 hd;have h1:=tE.lens hS hR;have h2:=hR.plen;have h3:=hR.len;have hx:P.kids[k]?=some x:=by rw [hR.eq,List.getElem?_append_left hlt];exact hx0
   have hdx:=hR.pre x (List.mem_of_getElem? hx0);have hy:F.kids[k]?=some F.kids[k]:=List.getElem?_eq_getElem (by omega);have hdr:F.kids.drop k=F.kids[k]::F.kids.drop (k+1):=List.drop_eq_getElem_cons (by omega);have hnd:fD (rest++pr::dd::tail)=false:=by
    cases rest with
    | nil=>exact hR.row
    | cons z zs=>exact hR.pre z (by have:z∈xs.drop (k+1):=by rw [hd2];simp
                                    exact List.mem_of_mem_drop this)
   rw [aB.ws] at ha;refine Tr.step (fun m=>by rw [jY,tE.row_eq hS hR,ltN hlt,cond_true,aK hx,Option.bind_some,aK hy,Option.bind_some]) ?_;refine Tr.bind (zhC hS (List.mem_of_getElem? hx) hdx (List.mem_of_getElem? hy) (by omega)) ?_;rw [hdr,List.cons_append,zlY hdx hnd];cases hm:x.mt bs lits F.kids[k] with
   | none=>rw [zlX];exact Tr.tt rfl Tr.val
   | some h =>
     rw [zjA];have hw:=zdQ hS (List.mem_of_getElem? hx) hdx hm;exact Tr.ff rfl (Tr.eq (fun m=>by rw [bT (by omega),cQ];rfl) (zhX hS hR rest (k+1) (acc++h) hd2 hlt (by rw [List.length_append];omega)))
end
theorem zh0 (bs:List aH) (lits:List aB) (hbs:bs.length<=2 ^ 36) (hbf:∀ b∈bs,b.fit) (hbv:zmP bs=true):∀ (n:Nat) (p:aB),p.w<=n->zkw p->p.fit->p.w<=2 ^ 17->∀ f:aB,f.valid=true->f.fit->f.w<=2 ^ 17 ->
  Tr (fun m=>jS m bs p lits f) (oR (p.mt bs lits f)):=by
 intro n;induction n with
 | zero=>intro p h;have:=p.w_kids;omega
 | succ n ih =>
   intro p hp hs hpf hpb f hfv hff hfb;have hw:=p.w_kids;have hfw:=f.w_kids;obtain ⟨q1,q2,q3,q4,q5⟩:=hs.parts;refine Tr.step (fun m=>by rw [jS]) ?_;rw [aB.mt_eq];by_cases h1:p.kind=1
   ·rw [decide_eq_true h1,cond_true];refine Tr.tt rfl ?_;by_cases h2:p.name=s8
    ·rw [decide_eq_true h2,cond_true];exact Tr.tt rfl Tr.val
    ·rw [decide_eq_false h2,cond_false];refine Tr.ff rfl (Tr.bind (zjI lits p) ?_);cases inF lits p with
     | true =>
       refine Tr.tt rfl (Tr.bind (znJ bs p f hbs hbf hpf hff) ?_);rw [cond_true,hbv,Bool.true_and];have hnp:zfD p=true:=by
        unfold zfD;rw [decide_eq_true h1,Bool.true_and];obtain ⟨d,hd⟩:=hs.ok;exact (zk3 hd h1).1
       have hnf:zfD f=decide (f.kind=1):=by unfold zfD;rw [hfv,Bool.and_true]
       rw [hnp,Bool.true_and,hnf];cases decide (f.kind=1)&&znv bs p f<;>exact Tr.val
     | false =>
       refine Tr.ff rfl (Tr.bind (u3 p (by omega)) (Tr.bind (u3 f (by omega)) ?_));rw [cond_false];exact Tr.val
   ·rw [decide_eq_false h1,cond_false];refine Tr.ff rfl ?_;by_cases h2:p.kind=2
    ·rw [decide_eq_true h2,cond_true];refine Tr.tt rfl (Tr.bind (j8 p f) ?_);cases same p f<;>exact Tr.val
    ·rw [decide_eq_false h2,cond_false];refine Tr.ff rfl ?_;by_cases h3:f.kind≠3
     ·rw [decide_eq_true h3,cond_true];exact Tr.tt rfl Tr.val
     ·rw [decide_eq_false h3,cond_false];refine Tr.ff rfl (Tr.bind (zpS p.kids) ?_);have hl1:=aB.ws_len p.kids;have hl2:=aB.ws_len f.kids;have hS:znw bs lits p f:=⟨q4,fun x hx hd g hg=>ih x (by have:=aB.ws_mem hx;omega) ((q4 x hx).pat hd) (aB.fits_mem hpf.parts.2.2.2 hx) (by have:=aB.ws_mem hx;omega) g (zkE hfv hg) (aB.fits_mem hff.parts.2.2.2 hg) (by have:=aB.ws_mem hg;omega),by omega,by omega⟩
      have hacc:∀ o:Option (List Hit),zkv [] o=o:=fun o=>by cases o<;>simp [zkv]
      rcases zjs q3 with hno | ⟨ys,dd,tail,he,e1,e2,e3⟩
      ·rw [zrO hno];refine Tr.tt rfl ?_;by_cases hlen:p.kids.length=f.kids.length
       ·refine Tr.ff (zp9 hlen) ?_;have:=zhY hS hlen p.kids 0 [] (by rw [List.drop_zero]) (Nat.zero_le _) hno (by simp;omega);rw [hacc,List.drop_zero] at this;exact this
       ·refine Tr.tt (decide_eq_true (by omega)) ?_;have hmn:aB.mts bs lits p.kids f.kids=none:=by
         cases hm:aB.mts bs lits p.kids f.kids with
         | none=>rfl
         | some h =>
           exact absurd ((zcH hm).1 (zgU hno)) hlen
        rw [hmn];exact Tr.val
      ·obtain ⟨zs,pr,hz⟩:∃ zs pr,ys=zs++[pr]:=by
        rcases List.eq_nil_or_concat ys with h0 | ⟨zs,pr,h0⟩
        ·subst h0;rw [he,List.nil_append,aB.kP,e2] at q2;simp at q2
        ·exact ⟨zs,pr,by simpa using h0⟩
       subst hz;have hat:fnd aN p.kids 0=((zs.length+1:Nat):Int):=by
        rw [he,zpd e1 e2];simp
       rw [hat];have hpk:p.kids=zs++pr::dd::tail:=by rw [he,List.append_assoc];rfl
       have hplen:p.kids.length=zs.length+2+tail.length:=by rw [hpk];simp;omega
       refine Tr.ff (decide_eq_false (by omega)) ?_;by_cases hlen:zs.length+tail.length<=f.kids.length
       ·have hR:tE p f zs pr dd tail:=⟨hpk,fun x hx=>e1 x (by simp [hx]),e1 pr (by simp),e2,e3,hlen⟩
        refine Tr.ff (decide_eq_false (by rw [tE.many_eq hS hR];omega)) ?_;have hzw:aB.ws zs<=aB.ws p.kids:=by rw [hpk,aB.ws_append];omega
        have:=zhX hS hR zs 0 [] (by rw [List.drop_zero]) (Nat.zero_le _) (by simp;omega);rw [hacc,List.drop_zero,<- hpk] at this;exact this
       ·refine Tr.tt (decide_eq_true (by rw [bT (n:=(p.kids.length:Int)-2) (by omega),bT (by omega)];omega)) ?_;have hmn:aB.mts bs lits p.kids f.kids=none:=by
         cases hm:aB.mts bs lits p.kids f.kids with
         | none=>rfl
         | some h =>
           have hc:qF p.kids=1:=by
            rw [he,znh,zgU e1,qF,e2,zgU e3];rfl
           have hnd:fD p.kids=false:=by
            rw [hpk];cases zs with
            | nil=>exact e1 pr (by simp)
            | cons z zs=>exact e1 z (by simp)
           have:=(zcH hm).2.2 hc hnd;omega
        rw [hmn];exact Tr.val
end Go.Abs
end
section
set_option linter.unusedVariables false
set_option linter.unusedSimpArgs false
namespace Go.Abs
theorem zoo:∀ (n:Nat) (f:aB),f.w<=n->f.w<=2 ^ 40->Tr (fun m=>j7 m f) (f.cnt:Int)/\f.cnt<=f.w:=by
 intro n;induction n with
 | zero=>intro f h;have:=f.w_kids;omega
 | succ n ih =>
   intro f hn hb;have hw:=f.w_kids;have hc:f.cnt=1+aB.cnts f.kids:=by obtain ⟨a,b,c,d,e⟩:=f;rw [aB.cnt];rfl
   have hle:aB.cnts f.kids<=aB.ws f.kids:=by
    have:∀ l:List aB,(∀ x∈l,x∈f.kids)->aB.cnts l<=aB.ws l:=by
     intro l;induction l with
     | nil=>intro _;rw [aB.cnts];omega
     | cons x l ihl =>
       intro hx;have h1:=ihl (fun y hy=>hx y (by simp [hy]));have h2:=aB.ws_mem (hx x (by simp));have h3:=(ih x (by omega) (by omega)).2;rw [aB.cnts,aB.ws];omega
    exact this _ (fun x hx=>hx)
   refine ⟨?_,by omega⟩;rw [hc];refine Tr.step (fun m=>by rw [j7]) ?_;have key:=aX f.kids (fun k zs=>∀ g:Nat,g+aB.cnts zs=1+aB.cnts f.kids->Tr (fun m=>gA m f (g:Int) (k:Int)) ((1+aB.cnts f.kids:Nat):Int)) ?_ ?_ 0 (Nat.zero_le _) 1 (by rw [List.drop_zero])
   ·exact key
   ·intro g hg;rw [aB.cnts,Nat.add_zero] at hg;rw [<- hg];exact Tr.step (fun m=>by rw [gA,aP,cond_false]) Tr.val
   ·intro k x zs hk hx hd ihk g hg;have hm:=List.mem_of_getElem? hx;have h2:=aB.ws_mem hm;have h3:=ih x (by omega) (by omega);rw [aB.cnts] at hg;refine Tr.step (fun m=>by rw [gA,ltN hk,cond_true,aK hx,Option.bind_some]) (Tr.bind h3.1 ?_);refine Tr.eq (fun m=>by rw [bT (by omega),cQ,show (g:Int)+(x.cnt:Int)=((g+x.cnt:Nat):Int) by simp]) (ihk (g+x.cnt) (by omega))
theorem zmv (f:aB) (h:f.w<=2 ^ 40):Tr (fun m=>j7 m f) (f.cnt:Int):=(zoo _ f (Nat.le_refl _) h).1
end Go.Abs
end
section
set_option linter.unusedVariables false
set_option linter.unusedSimpArgs false
namespace Go.Abs
theorem cnt_eq (f:aB):f.cnt=1+aB.cnts f.kids:=by obtain ⟨a,b,c,d,e⟩:=f;rw [aB.cnt];rfl
end Go.Abs
end
section
set_option linter.unusedVariables false
set_option linter.unusedSimpArgs false
namespace Go.Abs
theorem zrL:∀ (n:Nat) (f:aB),f.w<=n->∀ d,f.isOk d=true->f.w+1<=26*f.cnt:=by
 intro n;induction n with
 | zero=>intro f h;have:=f.w_kids;omega
 | succ n ih =>
   intro f hn d hd;have hw:=f.w_kids;have hc:=cnt_eq f;obtain ⟨k1,k2⟩:=oV hd;have hsc:f.scopes.length<=24:=by
    rw [aB.isOk_eq] at hd;cases hd0:decide (d=0) with
    | true=>rw [hd0] at hd;cases hd
    | false =>
    rw [hd0,cond_false] at hd;by_cases h1:f.kind=1
    ·rw [decide_eq_true h1,cond_true] at hd;unfold znt at hd;simp only [Bool.and_eq_true,decide_eq_true_eq] at hd;omega
    ·rw [decide_eq_false h1,cond_false] at hd;by_cases h2:f.kind=2
     ·rw [decide_eq_true h2,cond_true] at hd;simp only [Bool.and_eq_true,decide_eq_true_eq] at hd;omega
     ·rw [decide_eq_false h2,cond_false] at hd;simp only [Bool.and_eq_true,decide_eq_true_eq] at hd;omega
   have hk:aB.ws f.kids<=26*aB.cnts f.kids:=by
    have:∀ l:List aB,(∀ x∈l,x∈f.kids)->aB.ws l<=26*aB.cnts l:=by
     intro l;induction l with
     | nil=>intro _;rw [aB.ws];omega
     | cons x l ihl =>
       intro hx;have h1:=ihl (fun y hy=>hx y (by simp [hy]));have hm:=hx x (by simp);have h2:=aB.ws_mem hm;have h3:=ih x (by omega) _ (k2 x hm);rw [aB.cnts,aB.ws];omega
    exact this _ (fun x hx=>hx)
   omega
theorem wY {f:aB} (h:f.valid=true):f.w<=10400:=by
 unfold aB.valid at h;rw [Bool.and_eq_true,decide_eq_true_eq] at h;have:=zrL _ f (Nat.le_refl _) 40 h.1;omega
theorem zhd {p:aB} {lits:List aB} (h:zC p lits=true):p.w<=10400:=by
 unfold zC at h;rw [Bool.and_eq_true] at h;exact wY h.1
def zsV {α:Type} (D:α->Bool) (l:List α):Int × Bool:=bif decide (0<=fnd D l 0) then (fnd D l 0,true) else (0,false)
theorem zjd {α β:Type} {xs:List α} {D:α->Bool} {L:Nat->Int->Option (Int × Bool)} {E:Nat->α->Option β} {B:β->Bool}
  (h0:∀ m k,L (m+1) k=bif decide (k < (xs.length:Int)) then (idx xs k).bind fun a=>(E m a).bind fun v=>bif B v then some (k,true) else L m (k+1) else some (0,false))
  (hE:∀ a∈xs,∃ v,Tr (fun m=>E m a) v/\B v=D a):Tr (fun m=>L m 0) (zsV D xs):=by
 have key:=aX xs (fun k zs=>Tr (fun m=>L m (k:Int)) (bif decide (0<=fnd D zs k) then (fnd D zs k,true) else (0,false))) ?_ ?_ 0 (Nat.zero_le _)
 ·exact key
 ·exact Tr.step (fun m=>by rw [h0,aP,cond_false];rfl) Tr.val
 ·intro k x zs hk hx hd ih;obtain ⟨v,hv,hb⟩:=hE x (List.mem_of_getElem? hx);refine Tr.step (fun m=>by rw [h0,ltN hk,cond_true,aK hx,Option.bind_some,cQ]) (Tr.bind hv ?_);rw [hb,fnd];cases hD:D x with
  | true=>exact Tr.tt rfl (by rw [cond_true,decide_eq_true (by omega),cond_true];exact Tr.val)
  | false=>exact Tr.ff rfl (by rw [cond_false];exact ih)
theorem zn6 {α:Type} (D:α->Bool) (l:List α):(zsV D l=(0,false)/\∀ x∈l,D x=false)∨∃ (i:Nat) (x:α),zsV D l=((i:Int),true)/\l[i]?=some x/\D x=true/\∀ y∈l.take i,D y=false:=by
 unfold zsV;rcases zmH (D:=D) (l:=l) (k:=0) with ⟨h1,h2⟩ | ⟨i,x,h1,h2,h3,h4⟩
 ·rw [h1];exact .inl ⟨rfl,h2⟩
 ·rw [h1];refine .inr ⟨i,x,?_,h2,h3,h4⟩;rw [decide_eq_true (by omega),cond_true];simp
noncomputable def zqr (bs:List aH) (lits:List aB) (f:aB) (r:aI):Bool:=(r.pattern.mt bs lits f).isSome
noncomputable def zaU (bs:List aH) (rules:List aI) (lits:List aB) (f:aB):Int × Bool :=
 bif zmP bs&&(vB rules lits&&f.valid) then zsV (zqr bs lits f) rules else (0,false)
theorem zaa {rules:List aI} {lits:List aB} (h:vB rules lits=true):(∀ r∈rules,tO r lits=true)/\rules.length<=9:=by
 unfold vB at h;simp only [Bool.and_eq_true,decide_eq_true_eq] at h;exact ⟨oF.1 h.1,by have:=h.2.1;omega⟩
theorem zf {r:aI} {lits:List aB} (h:tO r lits=true):zC r.pattern lits=true:=by
 unfold tO at h;rw [Bool.and_eq_true] at h;exact h.1
structure zmI (rules:List aI):Prop where
 fit:∀ r∈rules,r.fit
 pw:∀ r∈rules,r.pattern.w<=2 ^ 36
 tw:∀ r∈rules,r.template.w<=2 ^ 36
theorem zlu (bs:List aH) (rules:List aI) (lits:List aB) (f:aB) (hb:∀ b∈bs,b.fit) (hbl:bs.length<=2 ^ 36) (hr:zmI rules) (hl:aB.fits lits) (hf:f.fit) :
  Tr (fun m=>pH m bs rules lits f) (zaU bs rules lits f):=by
 refine Tr.eq (fun m=>by unfold pH;rfl) (Tr.bind (vA bs (by omega) hb) ?_);unfold zaU;have no:Tr (fun m=>eA m bs rules lits f true) ((0:Int),false):=Tr.step (fun m=>by rw [eA];rfl) Tr.val;cases hbv:zmP bs with
 | false=>exact Tr.tt rfl no
 | true =>
 refine Tr.ff rfl (Tr.bind (znK rules lits (fun r h=>⟨hr.fit r h,hr.pw r h,hr.tw r h⟩) hl) ?_);cases hro:vB rules lits with
 | false=>exact Tr.tt rfl no
 | true =>
 refine Tr.ff rfl (Tr.bind (mR f hf) ?_);cases hfv:f.valid with
 | false=>exact no
 | true =>
 refine Tr.step (fun m=>by rw [eA,Bool.not_true,cond_false]) ?_;rw [Bool.true_and,Bool.true_and,cond_true];have hfw:=wY hfv;refine zjd (L:=fun m k=>gT m bs rules lits f k) (E:=fun m r=>jS m bs r.pattern lits f) (B:=fun v=>v.2) (fun m k=>by rw [gT]) (fun r h=>?_);have hpo:=zf ((zaa hro).1 r h);have hpw:=zhd hpo;exact ⟨_,zh0 bs lits hbl hb hbv _ r.pattern (Nat.le_refl _) (zG hpo) (hr.fit r h).1 (by omega) f hfv hf (by omega),rfl⟩
theorem zln (bs:List aH) (rules:List aI) (lits:List aB) (f:aB) (hb:∀ b∈bs,b.fit) (hbl:bs.length<=2 ^ 36) (hr:zmI rules) (hl:aB.fits lits) (hlw:aB.ws lits<=2 ^ 36) (hf:f.fit) (hfb:f.w<=2 ^ 36) :
  Tr (fun m=>oZ m bs rules lits f) (zaU bs rules lits f):=by
 refine Tr.eq (fun m=>by unfold oZ;rfl) (Tr.bind (zeP bs hb) ?_);unfold zaU;have no:Tr (fun m=>d8 m bs rules lits f true) ((0:Int),false):=Tr.step (fun m=>by rw [d8];rfl) Tr.val;cases hbv:zmP bs with
 | false=>exact Tr.tt rfl no
 | true =>
 refine Tr.ff rfl (Tr.bind (zn1 rules lits (fun r h=>⟨⟨hr.pw r h,(hr.fit r h).1⟩,⟨hr.tw r h,(hr.fit r h).2⟩⟩) hl hlw) ?_);cases hro:vB rules lits with
 | false=>exact Tr.tt rfl no
 | true =>
 refine Tr.ff rfl (Tr.bind (oX f hf hfb) ?_);cases hfv:f.valid with
 | false=>exact no
 | true =>
 refine Tr.step (fun m=>by rw [d8,Bool.not_true,cond_false]) ?_;rw [Bool.true_and,Bool.true_and,cond_true];have hfw:=wY hfv;refine zjd (L:=fun m k=>gR m bs rules lits f k) (E:=fun m r=>gG m bs r.pattern lits f) (B:=fun v=>v.2) (fun m k=>by rw [gR]) (fun r h=>?_);have hpo:=zf ((zaa hro).1 r h);have hpw:=zhd hpo;obtain ⟨v,hv,h1,h2⟩:=zkZ bs lits hbl _ r.pattern (Nat.le_refl _) (zG hpo) (by omega) f (by omega);exact ⟨v,hv,h1⟩
theorem zh2 (f:aB):Tr (fun m=>dG m f f) true:=by have:=zdS f f;rwa [qG] at this
theorem zlA (l:List aB):Tr (fun m=>jM m l l) true:=by have:=zod l l;rwa [qG] at this
end Go.Abs
end
section
set_option linter.unusedVariables false
set_option linter.unusedSimpArgs false
namespace Go.Abs
noncomputable def mC (x:aB) (h:Hit):Bool:=aB.part h.name x&&!decide (h.depth=0)
noncomputable def zcG (x:aB):Int->List Hit->Option Int
 | n,[]=>some n
 | n,h::hs=>bif mC x h then (bif decide (0<=n)&&decide (n≠(h.many.length:Int)) then none else zcG x (h.many.length:Int) hs) else zcG x n hs
noncomputable def wI (x:aB) (n:Nat) (hs:List Hit):List Hit:=hs.map fun h=>bif mC x h then h.many.getD n zdC else h
def zcF (D:Nat->Option aB):Nat->Nat->Option (List aB)
 | _,0=>some []
 | n,k+1=>match D n with
   | none=>none
   | some y=>match zcF D (n+1) k with
     | none=>none
     | some ys=>some (y::ys)
noncomputable def znp (hs:List Hit) (t:aB):aB:=bif decide (0<=hAt hs t) then (hs.getD (hAt hs t).toNat zdC).one else t
def ziz:Option (List aB)->Option (List aB)->Option (List aB)
 | some a,some b=>some (a++b)
 | _,_=>none
mutual
noncomputable def aB.fl:aB->List Hit->Option aB
 | .mk k nm n sc kids,hs=>bif decide (k=1) then some (znp hs (.mk k nm n sc kids))
   else match aB.fls kids hs with
    | none=>none
    | some ys=>bif decide (aB.cnts ys<=400) then some (.mk k nm n sc ys) else none
noncomputable def aB.fls:List aB->List Hit->Option (List aB)
 | [],_=>some []
 | x::xs,hs=>bif aN x then aB.fls xs hs
   else ziz (bif fD xs then (match zcG x (-1) hs with
    | none=>none
    | some N=>zcF (fun i=>aB.fl x (wI x i hs)) 0 N.toNat) else (match aB.fl x hs with
    | none=>none
    | some y=>some [y])) (aB.fls xs hs)
end
theorem aB.fl_eq (f:aB) (hs:List Hit):f.fl hs=bif decide (f.kind=1) then some (znp hs f)
  else match aB.fls f.kids hs with
   | none=>none
   | some ys=>bif decide (aB.cnts ys<=400) then some (.mk f.kind f.name f.n f.scopes ys) else none:=by
 obtain ⟨a,b,c,d,e⟩:=f;rw [aB.fl];rfl
theorem aB.fls_eq (x:aB) (xs:List aB) (hs:List Hit):aB.fls (x::xs) hs=bif aN x then aB.fls xs hs
  else ziz (bif fD xs then (match zcG x (-1) hs with
   | none=>none
   | some N=>zcF (fun i=>aB.fl x (wI x i hs)) 0 N.toNat) else (match aB.fl x hs with
   | none=>none
   | some y=>some [y])) (aB.fls xs hs):=by rw [aB.fls]
def DepR (l:List (aB × Int)) (v:Nat) (hs:List Hit) (x:aB):Prop:=∀ g,aB.part g x=true->(0 < dep l g-v∨0 < dep (nd hs) g)->dep (nd hs) g=dep l g-v
structure wS (l:List (aB × Int)) (v:Nat) (hs:List Hit) (x:aB):Prop where
 hv:zgY hs=true
 rws:x.rws l v=true
 ok:∃ d,x.isOk d=true
 R:DepR l v hs x
theorem zkW (x:aB):aB.part x x=true:=by rw [aB.part_eq,qG,Bool.true_or]
theorem zjP {g x f:aB} (hx:x∈f.kids) (h:aB.part g x=true):aB.part g f=true:=by
 rw [aB.part_eq,zkU hx h,Bool.or_true]
theorem zoO {l:List (aB × Int)} {v:Nat}:∀ {zs:List aB} {i:Nat} {x:aB},aB.kR l v zs=true->zs[i]?=some x->aN x=false->bif fD (zs.drop (i+1)) then x.anyD l v=true/\x.rws l (v+1)=true else x.rws l v=true
 | y::ys,0,x,h,hx,hd=>by
   simp at hx;subst hx;rw [aB.kR,Bool.and_eq_true,hd,cond_false] at h;have h1:=h.1;simp only [List.drop_succ_cons,List.drop_zero];cases hn:fD ys with
   | true=>rw [hn,cond_true,Bool.and_eq_true] at h1;exact h1
   | false=>rw [hn,cond_false] at h1;exact h1
 | y::ys,i+1,x,h,hx,hd=>by
   rw [aB.kR,Bool.and_eq_true] at h;have:=zoO (zs:=ys) (i:=i) (x:=x) h.2 (by simpa using hx) hd;simpa using this
mutual
theorem zpm {l:List (aB × Int)} {v:Int}:∀ f:aB,f.anyD l v=true->∃ g,aB.part g f=true/\v < dep l g
 | .mk a b c d e,h=>by
   rw [aB.anyD,Bool.or_eq_true] at h;rcases h with h | h
   ·exact ⟨_,zkW _,of_decide_eq_true h⟩
   ·obtain ⟨g,h1,h2⟩:=znl e h;exact ⟨g,by rw [aB.part,h1,Bool.or_true],h2⟩
theorem znl {l:List (aB × Int)} {v:Int}:∀ zs:List aB,aB.anyDs l v zs=true->∃ g,aB.parts g zs=true/\v < dep l g
 | [],h=>by rw [aB.anyDs] at h;cases h
 | x::xs,h=>by
   rw [aB.anyDs,Bool.or_eq_true] at h;rcases h with h | h
   ·obtain ⟨g,h1,h2⟩:=zpm x h;exact ⟨g,by rw [aB.parts,h1,Bool.true_or],h2⟩
   ·obtain ⟨g,h1,h2⟩:=znl xs h;exact ⟨g,by rw [aB.parts,h1,Bool.or_true],h2⟩
end
theorem x8 {hs:List Hit} (h:zgY hs=true):(∀ x∈hs,x.isOk=true)/\hs.length<=20:=by
 unfold zgY at h;rw [Bool.and_eq_true,decide_eq_true_eq] at h;refine ⟨?_,by omega⟩;have:∀ {l ps:List Hit},hvF ps l=true->∀ x∈l,x.isOk=true:=by
  intro l;induction l with
  | nil=>intro ps _ x hx;cases hx
  | cons y ys ih =>
    intro ps hv x hx;rw [hvF,Bool.and_eq_true,Bool.and_eq_true] at hv;rcases List.mem_cons.1 hx with rfl | hx
    ·exact hv.1
    ·exact ih hv.2.2 x hx
 exact this h.1
theorem x7 {h:Hit} (hk:h.isOk=true):zfD h.name=true/\(0<=h.depth/\h.depth<=3)/\(h.depth=0->h.one.valid=true/\h.many=[])/\(h.depth≠0->h.many.length<=400/\∀ y∈h.many,y.name=h.name/\y.depth=h.depth-1/\y.isOk=true):=by
 rw [Hit.isOk_eq] at hk;simp only [Bool.and_eq_true,decide_eq_true_eq] at hk;obtain ⟨a,_,_,b,c⟩:=hk;refine ⟨a,b,fun h0=>?_,fun h0=>?_⟩
 ·rw [decide_eq_true h0,cond_true,Bool.and_eq_true,decide_eq_true_eq] at c;exact ⟨c.1,List.eq_nil_of_length_eq_zero (by omega)⟩
 ·rw [decide_eq_false h0,cond_false,Bool.and_eq_true,Bool.and_eq_true,decide_eq_true_eq] at c;refine ⟨by omega,fun y hy=>?_⟩;have:=oF.1 c.2.2 y hy;rw [Bool.and_eq_true,Bool.and_eq_true,decide_eq_true_eq] at this;exact ⟨wP.1 this.1,this.2.1,this.2.2⟩
theorem zjJ {hs:List Hit} (hv:zgY hs=true) {h:Hit} (hm:h∈hs):dep (nd hs) h.name=h.depth:=by
 have hn:=(x7 ((x8 hv).1 h hm)).1;unfold zgY at hv;rw [Bool.and_eq_true] at hv;unfold zfD at hn;rw [Bool.and_eq_true,decide_eq_true_eq] at hn;unfold dep;rw [decide_eq_false (by simp [hn.1]),cond_false];exact zrM hv.1 h hm
theorem zlj {f:aB}:∀ {l:List Hit},(∀ h∈l,h.name≠f)->zkm (nd l) f=-1
 | [],_=>rfl
 | x::xs,h=>by
   show zkm ((x.name,x.depth)::nd xs) f=-1
   rw [zkm,zlT (h x (by simp)),cond_false,zlj (fun y hy=>h y (by simp [hy]))]
theorem zhL {hs:List Hit} (hv:zgY hs=true) (g:aB):(∃ h∈hs,h.name=g/\dep (nd hs) g=h.depth)∨((∀ h∈hs,h.name≠g)/\dep (nd hs) g=-1):=by
 by_cases hx:∃ h∈hs,h.name=g
 ·obtain ⟨h,hm,rfl⟩:=hx;exact .inl ⟨h,hm,rfl,zjJ hv hm⟩
 ·have hn:∀ h∈hs,h.name≠g:=fun h hm he=>hx ⟨h,hm,he⟩
  refine .inr ⟨hn,?_⟩;unfold dep;cases decide (g.kind≠1) with
  | true=>rfl
  | false=>rw [cond_false];exact zlj hn
theorem zhN {x:aB}:∀ {hs:List Hit} {n N:Int},zcG x n hs=some N->((N=n/\∀ h∈hs,mC x h=true->False)∨(∃ h∈hs,mC x h=true)/\∀ h∈hs,mC x h=true->(h.many.length:Int)=N)/\(0<=n->N=n)
 | [],n,N,h=>by rw [zcG] at h;cases h;exact ⟨.inl ⟨rfl,fun h hh=>by cases hh⟩,fun _=>rfl⟩
 | y::ys,n,N,h=>by
   rw [zcG] at h;cases hd:mC x y with
   | false =>
     rw [hd,cond_false] at h;obtain ⟨h1,h2⟩:=zhN h;refine ⟨?_,h2⟩;rcases h1 with ⟨e,h1⟩ | ⟨⟨z,hz,hzd⟩,h1⟩
     ·exact .inl ⟨e,fun w hw hwd=>by
       rcases List.mem_cons.1 hw with rfl | hw
       ·rw [hd] at hwd;cases hwd
       ·exact h1 w hw hwd⟩
     ·exact .inr ⟨⟨z,by simp [hz],hzd⟩,fun w hw hwd=>by
       rcases List.mem_cons.1 hw with rfl | hw
       ·rw [hd] at hwd;cases hwd
       ·exact h1 w hw hwd⟩
   | true =>
     rw [hd,cond_true] at h;cases hc:(decide (0<=n)&&decide (n≠(y.many.length:Int))) with
     | true=>rw [hc,cond_true] at h;cases h
     | false =>
       rw [hc,cond_false] at h;obtain ⟨h1,h2⟩:=zhN h;have hN:=h2 (by omega);refine ⟨.inr ⟨⟨y,by simp,hd⟩,fun w hw hwd=>?_⟩,fun h0=>?_⟩
       ·rcases List.mem_cons.1 hw with rfl | hw
        ·exact hN.symm
        ·rcases h1 with ⟨_,h1⟩ | ⟨_,h1⟩
         ·exact (h1 w hw hwd).elim
         ·exact h1 w hw hwd
       ·rw [hN];rw [Bool.and_eq_false_iff] at hc;rcases hc with hc | hc
        ·exact absurd h0 (of_decide_eq_false hc)
        ·have:=of_decide_eq_false hc;omega
theorem wS.kid {l:List (aB × Int)} {v:Nat} {hs:List Hit} {f x:aB} (hF:wS l v hs f) {i:Nat} (hx:f.kids[i]?=some x) (hd:aN x=false) (hn:fD (f.kids.drop (i+1))=false):wS l v hs x:=by
 have hm:=List.mem_of_getElem? hx;have hr:=hF.rws;rw [aB.rws_eq,Bool.and_eq_true] at hr;have:=zoO hr.2 hx hd;rw [hn,cond_false] at this;obtain ⟨d,hok⟩:=hF.ok;exact ⟨hF.hv,this,⟨_,(oV hok).2 x hm⟩,fun g hg=>hF.R g (zjP hm hg)⟩
theorem zgQ {h:Hit} {n:Nat} (hn:n < h.many.length):h.many.getD n zdC∈h.many:=by
 rw [List.getD_eq_getElem?_getD,List.getElem?_eq_getElem hn];exact List.getElem_mem hn
theorem zeK {x:aB} {n:Nat}:∀ {hs:List Hit},(∀ h∈hs,h.isOk=true)->(∀ h∈hs,mC x h=true->n < h.many.length)->(wI x n hs).map Hit.name=hs.map Hit.name
 | [],_,_=>rfl
 | h::hs,hk,hn=>by
   have ih:=zeK (x:=x) (n:=n) (hs:=hs) (fun y hy=>hk y (by simp [hy])) (fun y hy=>hn y (by simp [hy]))
   show (bif mC x h then h.many.getD n zdC else h).name::(wI x n hs).map Hit.name=h.name::hs.map Hit.name
   rw [ih];cases hd:mC x h with
   | false=>rfl
   | true =>
     rw [cond_true];have h0:h.depth≠0:=by
      unfold mC at hd;rw [Bool.and_eq_true,Bool.not_eq_true',decide_eq_false_iff_not] at hd;exact hd.2
     rw [(((x7 (hk h (by simp))).2.2.2 h0).2 _ (zgQ (hn h (by simp) hd))).1]
theorem zna:∀ {l ps:List Hit},hvF ps l=true->zev (ps.map Hit.name) (l.map Hit.name)=true
 | [],ps,_=>rfl
 | x::xs,ps,h=>by
   rw [hvF,Bool.and_eq_true,Bool.and_eq_true] at h;have ih:=zna h.2.2;rw [List.map_append] at ih;rw [List.map_cons,zev];have h1:inF (ps.map Hit.name) x.name=false:=by
    unfold inF;rw [oF.2 (fun y hy=>?_)]
    ·rfl
    ·obtain ⟨z,hz,rfl⟩:=List.mem_map.1 hy;exact oF.1 h.2.1 z hz
   rw [h1];simpa using ih
theorem zjB {x:aB} {n:Nat} {hs:List Hit} (hv:zgY hs=true) (hn:∀ h∈hs,mC x h=true->n < h.many.length):zgY (wI x n hs)=true:=by
 obtain ⟨h1,h2⟩:=x8 hv;have hnm:=zeK h1 hn;unfold zgY at hv ⊢;rw [Bool.and_eq_true] at hv ⊢;refine ⟨zoP (fun y hy=>?_) ?_,?_⟩
 ·obtain ⟨h,hm,rfl⟩:=List.mem_map.1 hy;cases hd:mC x h with
  | false=>exact h1 h hm
  | true =>
    rw [cond_true];have h0:h.depth≠0:=by
     unfold mC at hd;rw [Bool.and_eq_true,Bool.not_eq_true',decide_eq_false_iff_not] at hd;exact hd.2
    exact (((x7 (h1 h hm)).2.2.2 h0).2 _ (zgQ (hn h hm hd))).2.2
 ·rw [hnm];exact zna hv.1
 ·have:(wI x n hs).length=hs.length:=by unfold wI;rw [List.length_map]
  rw [this];exact hv.2
theorem wS.row {l:List (aB × Int)} {v:Nat} {hs:List Hit} {f x:aB} (hF:wS l v hs f) {i:Nat} (hx:f.kids[i]?=some x) (hd:aN x=false) (hn:fD (f.kids.drop (i+1))=true) :
  (∃ h∈hs,mC x h=true)/\∀ n,(∀ h∈hs,mC x h=true->n < h.many.length)->wS l (v+1) (wI x n hs) x:=by
 have hm:=List.mem_of_getElem? hx;have hr:=hF.rws;rw [aB.rws_eq,Bool.and_eq_true] at hr;have hk:=zoO hr.2 hx hd;rw [hn,cond_true] at hk;obtain ⟨d,hok⟩:=hF.ok;refine ⟨?_,fun n hlen=>⟨zjB hF.hv hlen,hk.2,⟨_,(oV hok).2 x hm⟩,fun g hg hpos=>?_⟩⟩
 ·obtain ⟨g,h1,h2⟩:=zpm x hk.1;have hR:=hF.R g (zjP hm h1) (.inl (by omega));rcases zhL hF.hv g with ⟨h,hmem,rfl,he⟩ | ⟨_,he⟩
  ·refine ⟨h,hmem,?_⟩;unfold mC;rw [h1,Bool.true_and,decide_eq_false (by omega)];rfl
  ·omega
 ·have hR:=hF.R g (zjP hm hg);rcases zhL hF.hv g with ⟨h,hmem,rfl,he⟩ | ⟨hno,he⟩
  ·have hin:(bif mC x h then h.many.getD n zdC else h)∈wI x n hs:=List.mem_map.2 ⟨h,hmem,rfl⟩;have hok:=x7 ((x8 hF.hv).1 h hmem);by_cases h0:h.depth=0
   ·have hdp:mC x h=false:=by unfold mC;rw [decide_eq_true h0];simp
    rw [hdp,cond_false] at hin;have:=zjJ (zjB hF.hv hlen) hin;rcases hpos with hp | hp
    ·have:=hR (.inl (by omega));omega
    ·omega
   ·have hdp:mC x h=true:=by unfold mC;rw [hg,decide_eq_false h0];rfl
    rw [hdp,cond_true] at hin;have hnm:=(hok.2.2.2 h0).2 _ (zgQ (hlen h hmem hdp));have h2:=zjJ (zjB hF.hv hlen) hin;rw [hnm.1,hnm.2.1] at h2;have:=hR (.inr (by have:=hok.2.1.1;omega));rw [h2];omega
  ·have h2:dep (nd (wI x n hs)) g=-1:=by
    rcases zhL (zjB hF.hv hlen) g with ⟨h',hmem',hnm',_⟩ | ⟨_,he'⟩
    ·have:h'.name∈(wI x n hs).map Hit.name:=List.mem_map.2 ⟨h',hmem',rfl⟩;rw [zeK (x8 hF.hv).1 hlen] at this;obtain ⟨h,hmem,hnm⟩:=List.mem_map.1 this;exact absurd (hnm.trans hnm') (hno h hmem)
    ·exact he'
   rcases hpos with hp | hp
   ·have:=hR (.inl (by omega));omega
   ·omega
theorem wS.leaf {l:List (aB × Int)} {v:Nat} {hs:List Hit} {x:aB} (hF:wS l v hs x):hAt hs x=-1∨∃ i h,hAt hs x=((i:Nat):Int)/\hs[i]?=some h/\h.depth=0/\h.one.valid=true:=by
 rcases zmH (D:=fun y:Hit=>same y.name x) (l:=hs) (k:=0) with ⟨h1,_⟩ | ⟨i,h,h1,h2,h3,_⟩
 ·exact .inl h1
 ·have hm:=List.mem_of_getElem? h2;have hn:h.name=x:=wP.1 h3;have hok:=x7 ((x8 hF.hv).1 h hm);have hd:=zjJ hF.hv hm;rw [hn] at hd;have hr:=hF.rws;rw [aB.rws_eq,Bool.and_eq_true,Bool.not_eq_true',decide_eq_false_iff_not] at hr;have h0:h.depth=0:=by
   by_cases hp:0 < h.depth
   ·have:=hF.R x (zkW x) (.inr (by omega));omega
   ·have:=hok.2.1.1;omega
  exact .inr ⟨i,h,by unfold hAt;rw [h1,Nat.zero_add],h2,h0,(hok.2.2.1 h0).1⟩
structure zlM (y:aB):Prop where
 ok:∃ d,y.isOk d=true
 cnt:y.cnt<=401
theorem zlM.w {y:aB} (h:zlM y):y.w<=10426:=by
 obtain ⟨d,hd⟩:=h.ok;have:=zrL _ y (Nat.le_refl _) d hd;have:=h.cnt;omega
theorem znm:∀ {l:List aB},(∀ y∈l,∃ d,y.isOk d=true)->∃ D,∀ y∈l,y.isOk D=true
 | [],_=>⟨0,fun y hy=>by cases hy⟩
 | x::xs,h=>by
   obtain ⟨D,hD⟩:=znm (l:=xs) (fun y hy=>h y (by simp [hy]));obtain ⟨d,hd⟩:=h x (by simp);refine ⟨D+d,fun y hy=>?_⟩;rcases List.mem_cons.1 hy with rfl | hy
   ·exact zhE _ y (Nat.le_refl _) d _ (by omega) hd
   ·exact zhE _ y (Nat.le_refl _) D _ (by omega) (hD y hy)
theorem zk2 {f:aB} {d:Nat} (h:f.isOk d=true) (h1:¬ f.kind=1) {ys:List aB} (hk:f.kind=3∨ys=[]) {D:Nat} (hD:∀ y∈ys,y.isOk D=true):f.name=(⟨#[]⟩:ByteArray)/\f.scopes=[]/\(aB.mk f.kind f.name f.n f.scopes ys).isOk (D+1)=true:=by
 rw [aB.isOk_eq] at h;cases hd0:decide (d=0) with
 | true=>rw [hd0] at h;cases h
 | false =>
 rw [hd0,cond_false,decide_eq_false h1,cond_false] at h;have hd1:decide (D+1=0)=false:=decide_eq_false (by omega);generalize f.kind=k at h h1 hk ⊢;generalize f.name=nm at h ⊢;generalize f.n=n at h ⊢;generalize f.scopes=sc at h ⊢;rw [aB.isOk,aB.isOks_eq,hd1,cond_false,decide_eq_false h1,cond_false];by_cases h2:k=2
 ·rw [decide_eq_true h2,cond_true] at h ⊢;simp only [Bool.and_eq_true,decide_eq_true_eq] at h ⊢;obtain ⟨a,b,c,e⟩:=h;have hy:ys=[]:=by
   rcases hk with hk | hk
   ·omega
   ·exact hk
  subst hy;exact ⟨a,List.eq_nil_of_length_eq_zero (by omega),a,b,c,by simp⟩
 ·rw [decide_eq_false h2,cond_false] at h ⊢;simp only [Bool.and_eq_true,decide_eq_true_eq] at h ⊢;obtain ⟨a,b,c,e,g⟩:=h;exact ⟨b,List.eq_nil_of_length_eq_zero (by omega),a,b,c,e,oF.2 (fun y hy=>hD y hy)⟩
end Go.Abs
end
section
set_option linter.unusedVariables false
set_option linter.unusedSimpArgs false
namespace Go.Abs
theorem zlg {a b:Option (List aB)} {r:List aB} (h:ziz a b=some r):∃ x y,a=some x/\b=some y/\r=x++y:=by
 cases a<;>cases b<;>simp [ziz] at h;exact ⟨_,_,rfl,rfl,h.symm⟩
theorem zjN {D:Nat->Option aB}:∀ {k n:Nat} {r:List aB},zcF D n k=some r->∀ y∈r,∃ i,n<=i/\i < n+k/\D i=some y
 | 0,n,r,h,y,hy=>by rw [zcF] at h;cases h;cases hy
 | k+1,n,r,h,y,hy=>by
   rw [zcF] at h;cases hd:D n with
   | none=>simp [hd] at h
   | some z =>
     cases hr:zcF D (n+1) k with
     | none=>simp [hd,hr] at h
     | some ys =>
       simp [hd,hr] at h;subst h;rcases List.mem_cons.1 hy with rfl | hy
       ·exact ⟨n,Nat.le_refl _,by omega,hd⟩
       ·obtain ⟨i,h1,h2,h3⟩:=zjN hr y hy;exact ⟨i,by omega,by omega,h3⟩
theorem zl7 {x:aB} {hs:List Hit} {N:Int} (hv:zgY hs=true) (hne:∃ h∈hs,mC x h=true) (h:zcG x (-1) hs=some N):0<=N/\N<=400/\∀ h∈hs,mC x h=true->h.many.length=N.toNat:=by
 obtain ⟨h1,_⟩:=zhN h;rcases h1 with ⟨_,h1⟩ | ⟨⟨y,hy,hyd⟩,h1⟩
 ·obtain ⟨y,hy,hyd⟩:=hne;exact (h1 y hy hyd).elim
 ·have e:=h1 y hy hyd;have h0:y.depth≠0:=by
   unfold mC at hyd;rw [Bool.and_eq_true,Bool.not_eq_true',decide_eq_false_iff_not] at hyd;exact hyd.2
  have:=((x7 ((x8 hv).1 y hy)).2.2.2 h0).1;exact ⟨by omega,by omega,fun z hz hzd=>by have:=h1 z hz hzd;omega⟩
theorem zhJ {l:List (aB × Int)} {v:Nat} {hs:List Hit} {f:aB} (hF:wS l v hs f) (ih:∀ x∈f.kids,∀ v' hs',wS l v' hs' x->∀ y,x.fl hs'=some y->zlM y):∀ (rest:List aB) (k:Nat) (r:List aB),f.kids.drop k=rest->aB.fls rest hs=some r->∀ y∈r,zlM y
 | [],k,r,hd,h,y,hy=>by rw [aB.fls] at h;cases h;cases hy
 | x::xs,k,r,hd,h,y,hy=>by
   obtain ⟨hx,hd2,hlt⟩:=u0 hd;have hm:=List.mem_of_getElem? hx;rw [aB.fls_eq] at h;cases hdx:aN x with
   | true=>rw [hdx,cond_true] at h;exact zhJ hF ih xs (k+1) r hd2 h y hy
   | false =>
     rw [hdx,cond_false] at h;obtain ⟨a,b,ha,hb,rfl⟩:=zlg h;rcases List.mem_append.1 hy with hy | hy
     ·cases hn:fD xs with
      | false =>
        rw [hn,cond_false] at ha;cases hf:x.fl hs with
        | none=>rw [hf] at ha;cases ha
        | some z =>
          rw [hf] at ha;cases ha;rw [List.mem_singleton] at hy;subst hy;exact ih x hm v hs (hF.kid hx hdx (by rw [hd2];exact hn)) _ hf
      | true =>
        rw [hn,cond_true] at ha;obtain ⟨r1,r2⟩:=hF.row hx hdx (by rw [hd2];exact hn);cases hc:zcG x (-1) hs with
        | none=>rw [hc] at ha;cases ha
        | some N =>
          rw [hc] at ha;obtain ⟨c0,c1,c2⟩:=zl7 hF.hv r1 hc;obtain ⟨i,_,i2,i3⟩:=zjN ha y hy;exact ih x hm (v+1) _ (r2 i (fun h hh hdp=>by rw [c2 h hh hdp];omega)) _ i3
     ·exact zhJ hF ih xs (k+1) b hd2 hb y hy
theorem zsC (l:List (aB × Int)):∀ (n:Nat) (f:aB),f.w<=n->∀ v hs,wS l v hs f->∀ y,f.fl hs=some y->zlM y:=by
 intro n;induction n with
 | zero=>intro f h;have:=f.w_kids;omega
 | succ n ih =>
   intro f hn v hs hF y hy;have hw:=f.w_kids;rw [aB.fl_eq] at hy;obtain ⟨d,hok⟩:=hF.ok;by_cases h1:f.kind=1
   ·rw [decide_eq_true h1,cond_true] at hy;cases hy;unfold znp;rcases hF.leaf with hl | ⟨i,h,hl,hi,h0,hv⟩
    ·rw [hl,decide_eq_false (by omega),cond_false];refine ⟨⟨d,hok⟩,?_⟩;rw [cnt_eq,(oV hok).1 (by omega),aB.cnts];omega
    ·rw [hl,decide_eq_true (by omega),cond_true,Int.toNat_natCast,List.getD_eq_getElem?_getD,hi,Option.getD_some];unfold aB.valid at hv;rw [Bool.and_eq_true,decide_eq_true_eq] at hv;exact ⟨⟨40,hv.1⟩,by omega⟩
   ·rw [decide_eq_false h1,cond_false] at hy;cases hf:aB.fls f.kids hs with
    | none=>simp [hf] at hy
    | some ys =>
      rw [hf] at hy;simp only at hy;cases hc:decide (aB.cnts ys<=400) with
      | false=>rw [hc] at hy;cases hy
      | true =>
        rw [hc,cond_true] at hy;cases hy;have hall:=zhJ hF (fun x hx v' hs' hF' y hy=>ih x (by have:=aB.ws_mem hx;omega) v' hs' hF' y hy) f.kids 0 ys (by rw [List.drop_zero]) hf;obtain ⟨D,hD⟩:=znm (fun y hy=>(hall y hy).ok);have hk3:f.kind=3∨ys=[]:=by
         by_cases h3:f.kind=3
         ·exact .inl h3
         ·rw [(oV hok).1 h3,aB.fls] at hf;cases hf;exact .inr rfl
        refine ⟨⟨D+1,(zk2 hok h1 hk3 hD).2.2⟩,?_⟩;have:=of_decide_eq_true hc;rw [aB.cnt];omega
theorem zoA {l:List (aB × Int)} {v:Nat} {hs:List Hit} {f y:aB} (hF:wS l v hs f) (h:f.fl hs=some y):zlM y:=zsC l _ f (Nat.le_refl _) v hs hF y h
theorem zoe (h:Hit):∀ (n:Nat) (f:aB) (b:Bool),f.w<=n->Tr (fun m=>dE m f b h) (b||aB.part h.name f):=by
 intro n;induction n with
 | zero=>intro f b h;have:=f.w_kids;omega
 | succ n ih =>
   intro f b hn;have hw:=f.w_kids;rw [aB.part_eq];refine Tr.step (fun m=>by rw [dE]) (Tr.bind (v:=b||same f h.name) ?_ ?_)
   ·refine Tr.eq (fun m=>by unfold wQ;rfl) ?_;cases b with
    | true=>exact Tr.tt rfl Tr.val
    | false=>exact Tr.ff rfl (Tr.bind (j8 _ _) Tr.val)
   ·have key:=aX f.kids (fun k zs=>∀ b:Bool,Tr (fun m=>b8 m f h (k:Int) b) (b||aB.parts h.name zs)) ?_ ?_ 0 (Nat.zero_le _) (b||same f h.name)
    ·rw [<- Bool.or_assoc];simpa using key
    ·intro b;exact Tr.step (fun m=>by rw [b8,aP,cond_false,aB.parts,Bool.or_false]) Tr.val
    ·intro k x zs hk hx hd ihk b;have hm:=aB.ws_mem (List.mem_of_getElem? hx);refine Tr.step (fun m=>by rw [b8,ltN hk,cond_true,aK hx,Option.bind_some,cQ]) (Tr.bind (ih x b (by omega)) ?_);rw [aB.parts,<- Bool.or_assoc];exact ihk _
theorem zmo (h:Hit) (f:aB):Tr (fun m=>dE m f false h) (aB.part h.name f):=by
 have:=zoe h _ f false (Nat.le_refl _);rwa [Bool.false_or] at this
noncomputable def zbR (x:aB):List Hit->Nat->List Int
 | [],_=>[]
 | h::hs,k=>(bif mC x h then [(k:Int)] else [])++zbR x hs (k+1)
section
variable {f:aB} {hs:List Hit}
abbrev zsU (f:aB) (acc:List aB):aB:=aB.mk f.kind (⟨#[]⟩:ByteArray) f.n ([]:List Int) acc
def zmM (f:aB) (acc:List aB):Option (List aB)->aB × Bool
 | some ys=>bif decide (aB.cnts (acc++ys)<=400) then (zsU f (acc++ys),true) else (mF,false)
 | none=>(mF,false)
theorem zhy {acc ys:List aB}:zmM f acc (some ys)=bif decide (aB.cnts (acc++ys)<=400) then (zsU f (acc++ys),true) else (mF,false):=rfl
theorem zdO {acc:List aB} {o:Option (List aB)}:zmM f acc (ziz none o)=(mF,false):=by cases o<;>rfl
theorem zjO {acc a:List aB} {o:Option (List aB)}:zmM f acc (ziz (some a) o)=zmM f (acc++a) o:=by
 cases o with
 | none=>rfl
 | some b=>unfold zmM ziz;simp only [List.append_assoc]
theorem zmY {acc:List aB} {o:Option (List aB)} (h:400 < aB.cnts acc):zmM f acc o=(mF,false):=by
 cases o with
 | none=>rfl
 | some ys =>
   have h2:¬ aB.cnts (acc++ys)<=400:=by rw [xI];omega
   rw [zhy,decide_eq_false h2];rfl
theorem zrE {x:aB} {hs':List Hit} (hb:Tr (fun m=>nE m x hs') (match x.fl hs' with
  | some y=>(y,true)
  | none=>(mF,false))) (hy:∀ y,x.fl hs'=some y->zlM y) {acc:List aB} (ha:aB.cnts acc<=400) :
  Tr (fun m=>mY m x hs' (aB.cnts acc:Int) (zsU f acc)) (match x.fl hs' with
   | some y=>(decide (aB.cnts (acc++[y])<=400),(aB.cnts (acc++[y]):Int),zsU f (acc++[y]))
   | none=>(false,(aB.cnts acc:Int),zsU f acc)):=by
 have hl:=zdI acc;cases hx:x.fl hs' with
 | none =>
   rw [hx] at hb;exact Tr.step (fun m=>by rw [mY]) (Tr.bind hb (Tr.eq (fun m=>rfl) Tr.val))
 | some y =>
   rw [hx] at hb;have hF:=hy y hx;have hyw:=hF.w;have hyc:=hF.cnt;have hcs:aB.cnts (acc++[y])=aB.cnts acc+y.cnt:=by rw [xI,aB.cnts,aB.cnts,Nat.add_zero]
   refine Tr.step (fun m=>by rw [mY]) (Tr.bind hb ?_);dsimp only;refine Tr.eq (fun m=>by rw [Bool.not_true,cond_false]) (Tr.bind (zmv y (by omega)) (Tr.chk (decide_eq_true (show (acc.length+1)*80<=140737488355328 by omega)) ?_));refine Tr.eq (fun m=>by rw [zm9,Option.bind_some,bT (by omega),zo1]) ?_;have e1:(aB.cnts acc:Int)+(y.cnt:Int)=((aB.cnts (acc++[y]):Nat):Int):=by rw [hcs];simp
   rw [e1];have e2:decide (((aB.cnts (acc++[y]):Nat):Int)<=400)=decide (aB.cnts (acc++[y])<=400):=by
    rw [Bool.eq_iff_iff,decide_eq_true_iff,decide_eq_true_iff];omega
   rw [e2];exact Tr.val
theorem zoa (g7:Int) (x:aB) (g45:Int) (n:Nat) (acc:List aB) (g54:Int) {v:aB × Bool} (hlen:∀ h∈hs,mC x h=true->n < h.many.length)
  (hK:Tr (fun m=>pN m f hs g7 x g45 (zbR x hs 0) (n:Int) f.kind (⟨#[]⟩:ByteArray) f.n ([]:List Int) acc g54 (wI x n hs)) v) :
  Tr (fun m=>jN m f hs g7 x g45 (zbR x hs 0) (n:Int) f.kind (⟨#[]⟩:ByteArray) f.n ([]:List Int) acc g54 0 hs) v:=by
 have key:∀ (zs pre:List Hit),hs=pre++zs->∀ p:Nat,p+(zbR x zs pre.length).length=(zbR x hs 0).length->(zbR x hs 0).drop p=zbR x zs pre.length ->
   Tr (fun m=>jN m f hs g7 x g45 (zbR x hs 0) (n:Int) f.kind (⟨#[]⟩:ByteArray) f.n ([]:List Int) acc g54 (p:Int) (wI x n pre++zs)) v:=by
  intro zs;induction zs with
  | nil =>
    intro pre he p hp hd;rw [zbR,List.length_nil,Nat.add_zero] at hp;rw [List.append_nil] at he;subst he;rw [List.append_nil];exact Tr.step (fun m=>by rw [jN,hp,aP,cond_false]) hK
  | cons h zs ih =>
    intro pre he p hp hd;have hgo:hs=(pre++[h])++zs:=by rw [he];simp
    have hnp:(wI x n pre).length=pre.length:=by unfold wI;rw [List.length_map]
    rw [zbR] at hp hd;cases hb:mC x h with
    | false =>
      rw [hb,cond_false,List.nil_append] at hp hd;have:=ih (pre++[h]) hgo p (by simpa using hp) (by simpa using hd);have e:wI x n (pre++[h])++zs=wI x n pre++h::zs:=by unfold wI;simp [hb]
      rw [e] at this;exact this
    | true =>
      rw [hb,cond_true,List.singleton_append] at hp hd;obtain ⟨q1,q2,q3⟩:=u0 hd;have hhs:hs[pre.length]?=some h:=by rw [he];simp
      have hm:=List.mem_of_getElem? hhs;have hn:=hlen h hm hb;have hmn:h.many[n]?=some (h.many.getD n zdC):=by rw [List.getD_eq_getElem?_getD,List.getElem?_eq_getElem hn];rfl
      have hcur:(wI x n pre++h::zs)[pre.length]?=some h:=by rw [List.getElem?_append_right (by omega),hnp,Nat.sub_self];rfl
      refine Tr.step (fun m=>by rw [jN,ltN q3,cond_true,aK q1,Option.bind_some,aK hhs,Option.bind_some,aK hmn,Option.bind_some,aK hcur,Option.bind_some,cQ]) ?_;have:=ih (pre++[h]) hgo (p+1) (by simp at hp ⊢;omega) (by simpa using q2);have e:wI x n (pre++[h])++zs=(wI x n pre++h::zs).set (pre.length:Int).toNat (h.many.getD n zdC):=by
       rw [Int.toNat_natCast,List.set_append_right _ _ (by omega),hnp,Nat.sub_self,List.set_cons_zero];unfold wI;simp [hb]
      rw [e] at this;exact this
 have:=key hs [] rfl 0 (by simp) (by simp);simpa [wI] using this
theorem zob {l:List (aB × Int)} {vv:Nat} (k:Nat) (x:aB) (hk:k < 2 ^ 40) (N:Nat) (hN:N<=400) (hsl:hs.length<=20) (hlen:∀ h∈hs,mC x h=true->h.many.length=N)
  (hb:∀ i,i < N->Tr (fun m=>nE m x (wI x i hs)) (match x.fl (wI x i hs) with
   | some y=>(y,true)
   | none=>(mF,false))) (hF:∀ i,i < N->wS l vv (wI x i hs) x) {o:Option (List aB)}
  (hK:∀ acc,aB.cnts acc<=400->Tr (fun m=>gH m f hs ((k+1:Nat):Int) f.kind (⟨#[]⟩:ByteArray) f.n ([]:List Int) acc (aB.cnts acc:Int)) (zmM f acc o)) :
  ∀ (j n:Nat),n+j=N->∀ acc,aB.cnts acc<=400->Tr (fun m=>lP m f hs (k:Int) x (N:Int) (zbR x hs 0) (n:Int) f.kind (⟨#[]⟩:ByteArray) f.n ([]:List Int) acc (aB.cnts acc:Int)) (zmM f acc (ziz (zcF (fun i=>x.fl (wI x i hs)) n j) o)):=by
 intro j;induction j with
 | zero =>
   intro n hn acc ha;have:n=N:=by omega
   subst this;rw [zcF,zjO,List.append_nil];exact Tr.step (fun m=>by rw [lP,aP,cond_false,bT (by omega),cQ]) (hK acc ha)
 | succ j ih =>
   intro n hn acc ha;have hnN:n < N:=by omega
   refine Tr.step (fun m=>by rw [lP,ltN hnN,cond_true]) ?_;refine Tr.bind (v:=hs) (Tr.eq (fun m=>by unfold pX;rfl) (Tr.chk (decide_eq_true (by simp;omega)) Tr.val)) ?_;refine zoa (k:Int) x (N:Int) n acc (aB.cnts acc:Int) (fun h hh hd=>by rw [hlen h hh hd];exact hnN) ?_;refine Tr.step (fun m=>by rw [pN]) (Tr.bind (zrE (hb n hnN) (fun y hy=>zoA (hF n hnN) hy) ha) ?_);cases hx:x.fl (wI x n hs) with
   | none =>
     have e:zcF (fun i=>x.fl (wI x i hs)) n (j+1)=none:=by rw [zcF];simp only [hx]
     rw [e,zdO];exact Tr.tt rfl Tr.val
   | some y =>
     have e:zmM f acc (ziz (zcF (fun i=>x.fl (wI x i hs)) n (j+1)) o)=zmM f (acc++[y]) (ziz (zcF (fun i=>x.fl (wI x i hs)) (n+1) j) o):=by
      rw [zcF];simp only [hx];cases zcF (fun i=>x.fl (wI x i hs)) (n+1) j with
      | none=>simp only [zdO]
      | some ys=>simp only [zjO,List.append_assoc,List.singleton_append]
     rw [e];dsimp only;by_cases hc:aB.cnts (acc++[y])<=400
     ·rw [decide_eq_true hc];refine Tr.ff rfl (Tr.eq (fun m=>by rw [bT (by omega),cQ];rfl) (ih (n+1) (by omega) (acc++[y]) hc))
     ·rw [decide_eq_false hc,zmY (by omega)];exact Tr.tt rfl Tr.val
theorem zoc (k:Nat) (x:aB) (acc:List aB) (hsl:hs.length<=20) (hok:∀ h∈hs,h.isOk=true) {v:aB × Bool} (R:Int->aB × Bool)
  (hK:∀ N:Int,zcG x (-1) hs=some N->Tr (fun m=>pO m f hs (k:Int) f.kind (⟨#[]⟩:ByteArray) f.n ([]:List Int) acc (aB.cnts acc:Int) x N (zbR x hs 0)) (R N)) :
  Tr (fun m=>iE m f hs (k:Int) f.kind (⟨#[]⟩:ByteArray) f.n ([]:List Int) acc (aB.cnts acc:Int) x 0 ([]:List Int) (-1)) (match zcG x (-1) hs with
   | none=>(mF,false)
   | some N=>R N):=by
 have key:=aX hs (fun j zs=>∀ (ds:List Int) (n:Int),ds++zbR x zs j=zbR x hs 0->zcG x n zs=zcG x (-1) hs->ds.length<=j->Tr (fun m=>iE m f hs (k:Int) f.kind (⟨#[]⟩:ByteArray) f.n ([]:List Int) acc (aB.cnts acc:Int) x (j:Int) ds n) (match zcG x (-1) hs with
   | none=>(mF,false)
   | some N=>R N)) ?_ ?_ 0 (Nat.zero_le _) [] (-1) (by simp) (by simp) (Nat.le_refl _)
 ·exact key
 ·intro ds n h1 h2 _;rw [zbR,List.append_nil] at h1;rw [zcG] at h2;have hk:=hK n h2.symm;rw [<- h2,h1];exact Tr.step (fun m=>by rw [iE,aP,cond_false]) hk
 ·intro j h zs hj hx hd ih ds n h1 h2 hl;have hm:=List.mem_of_getElem? hx;refine Tr.step (fun m=>by rw [iE,ltN hj,cond_true,aK hx,Option.bind_some]) (Tr.bind (zmo h x) ?_);rw [zbR] at h1;rw [zcG] at h2;have e:Tr (fun m=>lR m f hs (k:Int) f.kind (⟨#[]⟩:ByteArray) f.n ([]:List Int) acc (aB.cnts acc:Int) x (j:Int) ds n h (!mC x h)) (match zcG x (-1) hs with
   | none=>(mF,false)
   | some N=>R N):=by
   cases hb:mC x h with
   | false =>
     rw [hb,cond_false,List.nil_append] at h1;rw [hb,cond_false] at h2;exact Tr.step (fun m=>by rw [lR,Bool.not_false,cond_true,cQ]) (ih ds n h1 h2 (by omega))
   | true =>
     rw [hb,cond_true] at h1 h2;refine Tr.step (fun m=>by rw [lR,Bool.not_true,cond_false]) (Tr.chk (decide_eq_true (by simp;omega)) ?_);have j6:∀ b:Bool,(decide (0<=n)&&decide (n≠(h.many.length:Int)))=b->Tr (fun m=>lQ m f hs (k:Int) f.kind (⟨#[]⟩:ByteArray) f.n ([]:List Int) acc (aB.cnts acc:Int) x (j:Int) ds h b) (match zcG x (-1) hs with
      | none=>(mF,false)
      | some N=>R N):=by
      intro b hbb;rw [hbb] at h2;cases b with
      | true =>
        rw [cond_true] at h2;rw [<- h2];exact Tr.step (fun m=>by rw [lQ,cond_true]) Tr.val
      | false =>
        rw [cond_false] at h2;exact Tr.step (fun m=>by rw [lQ,cond_false,cQ]) (ih (ds++[(j:Int)]) _ (by rw [List.append_assoc];exact h1) h2 (by simp;omega))
     by_cases hn:0<=n
     ·exact Tr.tt (decide_eq_true hn) (j6 _ (by rw [decide_eq_true hn,Bool.true_and]))
     ·exact Tr.ff (decide_eq_false hn) (j6 _ (by rw [decide_eq_false hn,Bool.false_and]))
  unfold mC at e;cases hp:aB.part h.name x with
  | false =>
    rw [hp,Bool.false_and,Bool.not_false] at e;exact Tr.tt rfl e
  | true =>
    rw [hp,Bool.true_and,Bool.not_not] at e;exact Tr.ff rfl e
theorem zjo {l:List (aB × Int)} {v:Nat} (hF:wS l v hs f) (hw:f.w<=2 ^ 30) (ih:∀ x∈f.kids,∀ v' hs',wS l v' hs' x->Tr (fun m=>nE m x hs') (match x.fl hs' with
  | some y=>(y,true)
  | none=>(mF,false))):∀ (rest:List aB) (k:Nat) (acc:List aB),f.kids.drop k=rest->k<=f.kids.length->aB.cnts acc<=400 ->
  Tr (fun m=>gH m f hs (k:Int) f.kind (⟨#[]⟩:ByteArray) f.n ([]:List Int) acc (aB.cnts acc:Int)) (zmM f acc (aB.fls rest hs))
 | [],k,acc,hd,hk,ha=>by
   have:k=f.kids.length:=by have:=congrArg List.length hd;rw [List.length_drop] at this;simp at this;omega
   subst this;rw [aB.fls,zhy,List.append_nil,decide_eq_true ha,cond_true];exact Tr.step (fun m=>by rw [gH,aP,cond_false]) Tr.val
 | x::xs,k,acc,hd,hk,ha=>by
   obtain ⟨hx,hd2,hlt⟩:=u0 hd;have hm:=List.mem_of_getElem? hx;have hfw:=f.w_kids;have hkl:=aB.ws_len f.kids;refine Tr.step (fun m=>by rw [gH,ltN hlt,cond_true,aK hx,Option.bind_some]) (Tr.bind (tT x _) ?_);rw [aB.fls_eq];have hgo:=zjo hF hw ih xs (k+1);cases hdx:aN x with
   | true =>
     rw [cond_true];exact Tr.tt hdx (Tr.eq (fun m=>by rw [cQ]) (hgo acc hd2 hlt ha))
   | false =>
     rw [cond_false];refine Tr.ff hdx ?_;have one:fD xs=false->Tr (fun m=>gI m f hs (k:Int) f.kind (⟨#[]⟩:ByteArray) f.n ([]:List Int) acc (aB.cnts acc:Int) x true) (zmM f acc (ziz (match x.fl hs with
       | none=>none
       | some y=>some [y]) (aB.fls xs hs))):=by
      intro hn;have hFx:=hF.kid hx hdx (by rw [hd2];exact hn);refine Tr.step (fun m=>by rw [gI,cond_true]) (Tr.bind (zrE (ih x hm v hs hFx) (fun y hy=>zoA hFx hy) ha) ?_);cases hxf:x.fl hs with
      | none=>rw [zdO];exact Tr.tt rfl Tr.val
      | some y =>
        simp only;rw [zjO];by_cases hc:aB.cnts (acc++[y])<=400
        ·rw [decide_eq_true hc];exact Tr.ff rfl (Tr.eq (fun m=>by rw [cQ];rfl) (hgo (acc++[y]) hd2 hlt hc))
        ·rw [decide_eq_false hc,zmY (by omega)];exact Tr.tt rfl Tr.val
     rcases zbS hd with ⟨hz,hl⟩ | ⟨y,ys,hz,hy,hl⟩
     ·subst hz;rw [show fD ([]:List aB)=false from rfl,cond_false];exact Tr.tt (decide_eq_true (by omega)) (one rfl)
     ·refine Tr.ff (decide_eq_false (by omega)) (Tr.eq (fun m=>by rw [cQ,aK hy,Option.bind_some]) (Tr.bind (tT y _) ?_));have hnx:fD xs=aN y:=by rw [hz];rfl
      cases hdy:aN y with
      | false =>
        rw [hnx,hdy,cond_false];have:=one (by rw [hnx,hdy]);refine Tr.eq (fun m=>?_) this
        show gI m f hs _ _ _ _ _ _ _ x (!aN y)=_
        rw [hdy];rfl
      | true =>
        rw [hnx,hdy,cond_true];obtain ⟨r1,r2⟩:=hF.row hx hdx (by rw [hd2,hnx,hdy]);obtain ⟨hall,hsl⟩:=x8 hF.hv;refine Tr.eq (G:=fun m=>gI m f hs (k:Int) f.kind (⟨#[]⟩:ByteArray) f.n ([]:List Int) acc (aB.cnts acc:Int) x false) (fun m=>?_) ?_
        ·show gI m f hs _ _ _ _ _ _ _ x (!aN y)=_
         rw [hdy];rfl
        refine Tr.step (fun m=>by rw [gI,cond_false]) ?_;have h4:=zoc (f:=f) (hs:=hs) k x acc hsl hall (v:=(mF,false)) (fun N=>zmM f acc (ziz (zcF (fun i=>x.fl (wI x i hs)) 0 N.toNat) (aB.fls xs hs))) (fun N hN=>by
         obtain ⟨c0,c1,c2⟩:=zl7 hF.hv r1 hN;have hFi:∀ i,i < N.toNat->wS l (v+1) (wI x i hs) x:=fun i hi=>r2 i (fun h hh hdp=>by rw [c2 h hh hdp];exact hi)
         have:=zob (f:=f) (hs:=hs) k x (by omega) N.toNat (by omega) hsl c2 (fun i hi=>ih x hm (v+1) _ (hFi i hi)) hFi (o:=aB.fls xs hs) (fun acc' ha'=>hgo acc' hd2 hlt ha') N.toNat 0 (by omega) acc ha;rw [Int.toNat_of_nonneg c0] at this;exact Tr.step (fun m=>by rw [pO];rfl) this)
        cases hc:zcG x (-1) hs with
        | none=>rw [hc] at h4;rw [zdO];exact h4
        | some N=>rw [hc] at h4;exact h4
end
theorem zn4 (l:List (aB × Int)):∀ (n:Nat) (f:aB),f.w<=n->f.w<=2 ^ 30->∀ v hs,wS l v hs f->Tr (fun m=>nE m f hs) (match f.fl hs with
  | some y=>(y,true)
  | none=>(mF,false)):=by
 intro n;induction n with
 | zero=>intro f h;have:=f.w_kids;omega
 | succ n ih =>
   intro f hn hw v hs hF;have hfw:=f.w_kids;rw [aB.fl_eq];refine Tr.step (fun m=>by rw [nE]) ?_;obtain ⟨d,hok⟩:=hF.ok;by_cases h1:f.kind=1
   ·rw [decide_eq_true h1,cond_true];refine Tr.tt rfl (Tr.bind (zq6 hs f) ?_);unfold znp;rcases hF.leaf with hl | ⟨i,h,hl,hi,h0,hv⟩
    ·rw [hl];exact Tr.ff rfl (Tr.bind (u3 f (by omega)) Tr.val)
    ·rw [hl,decide_eq_true (by omega),cond_true,Int.toNat_natCast,List.getD_eq_getElem?_getD,hi,Option.getD_some];have:=wY hv;exact Tr.tt rfl (Tr.eq (fun m=>by rw [aK hi,Option.bind_some]) (Tr.bind (u3 h.one (by omega)) Tr.val))
   ·rw [decide_eq_false h1,cond_false];refine Tr.ff rfl ?_;have:=zjo hF hw (fun x hx v' hs' hF'=>ih x (by have:=aB.ws_mem hx;omega) (by have:=aB.ws_mem hx;omega) v' hs' hF') f.kids 0 [] (by rw [List.drop_zero]) (Nat.zero_le _) (by rw [aB.cnts];omega);obtain ⟨e1,e2,_⟩:=zk2 (ys:=[]) hok h1 (.inr rfl) (D:=0) (fun y hy=>by cases hy);cases hf:aB.fls f.kids hs with
    | none=>rw [hf] at this;exact this
    | some ys =>
      rw [hf] at this;rw [zhy,List.nil_append] at this;simp only;rw [e1,e2];cases hc:decide (aB.cnts ys<=400) with
      | true=>rw [hc,cond_true] at this;rw [cond_true];exact this
      | false=>rw [hc,cond_false] at this;rw [cond_false];exact this
end Go.Abs
end
