/- A part of the proof: what the functions that the law calls answer, as pure values. -/
import Derived.Test.YtcebadpiebamdaaGreatK6b40e9d6df31
import Derived.Test.YtcebadpiebamdaaGreatK1eb21abec1f1
import Derived.Test.YtcebadpiebamdaaGreatK403ef3ea41a7
import Derived.Test.YtcebadpiebamdaaGreatKfdfef657bfd3
set_option linter.unusedSimpArgs false
set_option linter.unusedVariables false
section
set_option linter.unusedVariables false
set_option linter.unusedSimpArgs false
namespace Go.Abs
theorem zrB (nm:aB) (hnm:nm.kind=1):∀ (n:Nat) (f:aB),f.w<=n->Tr (fun m=>mU m f nm) (aB.part nm f):=by
 intro n;induction n with
 | zero=>intro f h;have:=f.w_kids;omega
 | succ n ih =>
   intro f hn;have hw:=f.w_kids;rw [aB.part_eq];have kids:Tr (fun m=>kQ m f nm) (aB.parts nm f.kids):=by
    refine Tr.step (fun m=>by rw [kQ]) ?_;have key:=aX f.kids (fun k zs=>Tr (fun m=>iQ m f nm (k:Int)) (aB.parts nm zs)) ?_ ?_ 0 (Nat.zero_le _)
    ·exact key
    ·exact Tr.step (fun m=>by rw [iQ,aP,cond_false,aB.parts]) Tr.val
    ·intro k x zs hk hx hd ihk;have hm:=aB.ws_mem (List.mem_of_getElem? hx);refine Tr.step (fun m=>by rw [iQ,ltN hk,cond_true,aK hx,Option.bind_some,cQ]) (Tr.bind (ih x (by omega)) ?_);rw [aB.parts];cases aB.part nm x with
     | true=>exact Tr.tt rfl Tr.val
     | false=>exact Tr.ff rfl ihk
   refine Tr.step (fun m=>by rw [mU]) ?_;by_cases h1:f.kind=1
   ·refine Tr.tt (decide_eq_true h1) (Tr.bind (qO f nm) ?_);cases same f nm with
    | true=>exact Tr.tt rfl Tr.val
    | false=>exact Tr.ff rfl kids
   ·have hs:same f nm=false:=zlT (fun e=>h1 (e ▸ hnm));rw [hs,Bool.false_or];exact Tr.ff (decide_eq_false h1) kids
theorem znb {h:Hit} (hk:h.isOk=true):h.name.kind=1:=by
 have hn:=(x7 hk).1;unfold zfD at hn;rw [Bool.and_eq_true,decide_eq_true_eq] at hn;exact hn.1
theorem zpZ {x:aB} {h:Hit} (hk:h.isOk=true):mC x h=(decide (0 < h.depth)&&aB.part h.name x):=by
 have:=(x7 hk).2.1.1;unfold mC;by_cases h0:h.depth=0
 ·rw [decide_eq_true h0,decide_eq_false (by omega)];simp
 ·rw [decide_eq_false h0,decide_eq_true (by omega)];simp
section
variable {hs:List Hit}
theorem zrg (x:aB) (hok:∀ h∈hs,h.isOk=true):Tr (fun m=>r8 m x hs) (match zcG x (-1) hs with
  | none=>-1
  | some N=>N):=by
 refine Tr.eq (fun m=>by unfold r8;rfl) ?_;have key:=aX hs (fun j zs=>∀ n:Int,zcG x n zs=zcG x (-1) hs->Tr (fun m=>fW m x hs (j:Int) n) (match zcG x (-1) hs with
  | none=>-1
  | some N=>N)) ?_ ?_ 0 (Nat.zero_le _) (-1) (by rw [List.drop_zero])
 ·exact key
 ·intro n h2;rw [zcG] at h2;rw [<- h2];exact Tr.step (fun m=>by rw [fW,aP,cond_false]) Tr.val
 ·intro j h zs hj hx hd ih n h2;have hm:=List.mem_of_getElem? hx;rw [zcG] at h2;have j2:Tr (fun m=>hH m x hs (j:Int) n (!mC x h)) (match zcG x (-1) hs with
   | none=>-1
   | some N=>N):=by
   cases hb:mC x h with
   | false =>
     rw [hb,cond_false] at h2;exact Tr.step (fun m=>by rw [hH,Bool.not_false,cond_true,cQ]) (ih n h2)
   | true =>
     rw [hb,cond_true] at h2;have j3:(decide (0<=n)&&decide (n≠(h.many.length:Int)))=false->Tr (fun m=>jA m x hs (j:Int)) (match zcG x (-1) hs with
      | none=>-1
      | some N=>N):=fun hc=>by
      rw [hc,cond_false] at h2;exact Tr.step (fun m=>by rw [jA,aK hx,Option.bind_some,cQ]) (ih _ h2)
     refine Tr.step (fun m=>by rw [hH,Bool.not_true,cond_false]) ?_;by_cases hn:0<=n
     ·refine Tr.tt (decide_eq_true hn) (Tr.eq (fun m=>by rw [aK hx,Option.bind_some]) ?_);by_cases hne:n=(h.many.length:Int)
      ·have hcc:decide (n≠(h.many.length:Int))=false:=decide_eq_false (fun hh=>hh hne);exact Tr.ff hcc (j3 (by rw [hcc,Bool.and_false]))
      ·rw [decide_eq_true hn,decide_eq_true (by exact hne),Bool.and_self,cond_true] at h2;rw [<- h2];exact Tr.tt (decide_eq_true (by exact hne)) Tr.val
     ·exact Tr.ff (decide_eq_false hn) (j3 (by rw [decide_eq_false hn,Bool.false_and]))
  refine Tr.step (fun m=>by rw [fW,ltN hj,cond_true,aK hx,Option.bind_some]) ?_;by_cases h0:h.depth=0
  ·have:mC x h=false:=by unfold mC;rw [decide_eq_true h0];simp
   rw [this] at j2;exact Tr.tt (decide_eq_true h0) j2
  ·have:mC x h=aB.part h.name x:=by unfold mC;rw [decide_eq_false h0];simp
   rw [this] at j2;exact Tr.ff (decide_eq_false h0) (Tr.eq (fun m=>by rw [Option.bind_some]) (Tr.bind (zrB h.name (znb (hok h hm)) _ x (Nat.le_refl _)) j2))
theorem ztl (x:aB) (n:Nat) (hok:∀ h∈hs,h.isOk=true) (hsl:hs.length<=20) (hlen:∀ h∈hs,mC x h=true->n < h.many.length):Tr (fun m=>tL m x hs (n:Int)) (wI x n hs):=by
 refine Tr.eq (fun m=>by unfold tL;rfl) ?_;have key:=aX hs (fun j zs=>∀ g:List Hit,g.length=j->g++wI x n zs=wI x n hs->Tr (fun m=>iH m x hs (n:Int) g (j:Int)) (wI x n hs)) ?_ ?_ 0 (Nat.zero_le _) [] rfl (by rw [List.drop_zero,List.nil_append])
 ·exact key
 ·intro g hg he;have:wI x n []=[]:=rfl;rw [this,List.append_nil] at he;rw [<- he];exact Tr.step (fun m=>by rw [iH,aP,cond_false]) Tr.val
 ·intro j h zs hj hx hd ih g hg he;have hm:=List.mem_of_getElem? hx;have he':(g++[bif mC x h then h.many.getD n zdC else h])++wI x n zs=wI x n hs:=by rw [<- he,List.append_assoc];rfl
  have j2:Tr (fun m=>jU m x hs (n:Int) g (j:Int) h (mC x h)) (wI x n hs):=by
   cases hb:mC x h with
   | true =>
     rw [hb,cond_true] at he';have hn:=hlen h hm hb;have hmn:h.many[n]?=some (h.many.getD n zdC):=by rw [List.getD_eq_getElem?_getD,List.getElem?_eq_getElem hn];rfl
     refine Tr.step (fun m=>by rw [jU,cond_true,aK hmn,Option.bind_some]) (Tr.chk (decide_eq_true (by simp;omega)) ?_);exact Tr.eq (fun m=>by rw [cQ]) (ih _ (by simp [hg]) he')
   | false =>
     rw [hb,cond_false] at he';refine Tr.step (fun m=>by rw [jU,cond_false]) (Tr.chk (decide_eq_true (by simp;omega)) ?_);exact Tr.eq (fun m=>by rw [cQ]) (ih _ (by simp [hg]) he')
  refine Tr.step (fun m=>by rw [iH,ltN hj,cond_true,aK hx,Option.bind_some]) ?_;rw [zpZ (hok h hm)] at j2;cases h0:decide (0 < h.depth) with
  | true =>
    rw [h0,Bool.true_and] at j2;exact Tr.tt rfl (Tr.bind (zrB h.name (znb (hok h hm)) _ x (Nat.le_refl _)) j2)
  | false =>
    rw [h0,Bool.false_and] at j2;exact Tr.ff rfl j2
end
section
variable {f:aB} {hs:List Hit}
def zmL (f:aB) (acc:List aB):Option (List aB)->aB × Bool
 | some ys=>bif decide (aB.cnts (acc++ys)<=400) then (aB.mk f.kind f.name f.n f.scopes (acc++ys),true) else (f,false)
 | none=>(f,false)
theorem zhw {acc ys:List aB}:zmL f acc (some ys)=bif decide (aB.cnts (acc++ys)<=400) then (aB.mk f.kind f.name f.n f.scopes (acc++ys),true) else (f,false):=rfl
theorem zhx {acc:List aB} {o:Option (List aB)}:zmL f acc (ziz none o)=(f,false):=by cases o<;>rfl
theorem zmX {acc a:List aB} {o:Option (List aB)}:zmL f acc (ziz (some a) o)=zmL f (acc++a) o:=by
 cases o with
 | none=>rfl
 | some b=>unfold zmL ziz;simp only [List.append_assoc]
theorem zqK {acc:List aB} {o:Option (List aB)} (h:400 < aB.cnts acc):zmL f acc o=(f,false):=by
 cases o with
 | none=>rfl
 | some ys =>
   have h2:¬ aB.cnts (acc++ys)<=400:=by rw [xI];omega
   rw [zhw,decide_eq_false h2];rfl
theorem zhS {l:List (aB × Int)} {vv:Nat} (k:Nat) (x:aB) (hx:f.kids[k]?=some x) (hk:k < 2 ^ 40) (row:Bool) (D:Nat->List Hit) (N:Nat) (hN:N<=400) (hw:x.w<=2 ^ 30)
  (hD:∀ i,i < N->bif row then Tr (fun m=>tL m x hs (i:Int)) (D i) else D i=hs)
  (hb:∀ i,i < N->Tr (fun m=>lE m x (D i)) (match x.fl (D i) with
   | some y=>(y,true)
   | none=>(x,false))) (hF:∀ i,i < N->wS l vv (D i) x) {o:Option (List aB)}
  (hK:∀ acc,aB.cnts acc<=400->Tr (fun m=>fO m f hs ((k+1:Nat):Int) (aB.cnts acc:Int) acc) (zmL f acc o)) :
  ∀ (j n:Nat),n+j=N->∀ acc,aB.cnts acc<=400->Tr (fun m=>iS m f hs (k:Int) row (N:Int) (aB.cnts acc:Int) (n:Int) acc) (zmL f acc (ziz (zcF (fun i=>x.fl (D i)) n j) o)):=by
 intro j;induction j with
 | zero =>
   intro n hn acc ha;have:n=N:=by omega
   subst this;rw [zcF,zmX,List.append_nil];exact Tr.step (fun m=>by rw [iS,aP,cond_false,bT (by omega),cQ]) (hK acc ha)
 | succ j ih =>
   intro n hn acc ha;have hnN:n < N:=by omega
   have hcl:=zdI acc;have j6:Tr (fun m=>kS m f hs (k:Int) row (N:Int) (aB.cnts acc:Int) (n:Int) acc (D n)) (zmL f acc (ziz (zcF (fun i=>x.fl (D i)) n (j+1)) o)):=by
    have hbn:=hb n hnN;refine Tr.step (fun m=>by rw [kS,aK hx,Option.bind_some]) (Tr.bind hbn ?_);cases hxf:x.fl (D n) with
    | none =>
      have e:zcF (fun i=>x.fl (D i)) n (j+1)=none:=by rw [zcF];simp only [hxf]
      rw [e,zhx];dsimp only;refine Tr.bind (zhD _ x (Nat.le_refl _) (by omega)) ?_;exact Tr.eq (fun m=>by rw [Bool.not_false,cond_true]) (Tr.step (fun m=>by rw [iT,cond_true]) Tr.val)
    | some y =>
      have hFy:=zoA (hF n hnN) hxf;have hyw:=hFy.w;have hyc:=hFy.cnt;have e:zmL f acc (ziz (zcF (fun i=>x.fl (D i)) n (j+1)) o)=zmL f (acc++[y]) (ziz (zcF (fun i=>x.fl (D i)) (n+1) j) o):=by
       rw [zcF];simp only [hxf];cases zcF (fun i=>x.fl (D i)) (n+1) j with
       | none=>simp only [zhx]
       | some ys=>simp only [zmX,List.append_assoc,List.singleton_append]
      rw [e];dsimp only;have hcs:aB.cnts (acc++[y])=aB.cnts acc+y.cnt:=by rw [xI,aB.cnts,aB.cnts,Nat.add_zero]
      have e1:(aB.cnts acc:Int)+(y.cnt:Int)=((aB.cnts (acc++[y]):Nat):Int):=by rw [hcs];simp
      refine Tr.bind (zhD _ y (Nat.le_refl _) (by omega)) (Tr.eq (fun m=>by rw [Bool.not_true,cond_false,bT (by omega),e1]) ?_);by_cases hc:aB.cnts (acc++[y])<=400
      ·refine Tr.step (fun m=>by rw [iT,decide_eq_false (show ¬ (400:Int) < ((aB.cnts (acc++[y]):Nat):Int) by omega),cond_false]) ?_;refine Tr.chk (decide_eq_true (by simp;omega)) ?_;exact Tr.eq (fun m=>by rw [bT (by omega),bT (by omega),e1,cQ]) (ih (n+1) (by omega) (acc++[y]) hc)
      ·rw [zqK (by omega)];exact Tr.step (fun m=>by rw [iT,decide_eq_true (show (400:Int) < ((aB.cnts (acc++[y]):Nat):Int) by omega),cond_true]) Tr.val
   have hDn:=hD n hnN;refine Tr.step (fun m=>by rw [iS,ltN hnN,cond_true]) ?_;cases row with
   | true=>exact Tr.tt rfl (Tr.eq (fun m=>by rw [aK hx,Option.bind_some]) (Tr.bind hDn j6))
   | false =>
     rw [cond_false] at hDn;rw [hDn] at j6;exact Tr.ff rfl j6
theorem zhT {l:List (aB × Int)} {v:Nat} (hF:wS l v hs f) (hw:f.w<=2 ^ 30) (ih:∀ x∈f.kids,∀ v' hs',wS l v' hs' x->Tr (fun m=>lE m x hs') (match x.fl hs' with
  | some y=>(y,true)
  | none=>(x,false))):∀ (rest:List aB) (k:Nat) (acc:List aB),f.kids.drop k=rest->k<=f.kids.length->aB.cnts acc<=400 ->
  Tr (fun m=>fO m f hs (k:Int) (aB.cnts acc:Int) acc) (zmL f acc (aB.fls rest hs))
 | [],k,acc,hd,hk,ha=>by
   have:k=f.kids.length:=by have:=congrArg List.length hd;rw [List.length_drop] at this;simp at this;omega
   subst this;rw [aB.fls,zhw,List.append_nil,decide_eq_true ha,cond_true];exact Tr.step (fun m=>by rw [fO,aP,cond_false,List.nil_append]) Tr.val
 | x::xs,k,acc,hd,hk,ha=>by
   obtain ⟨hx,hd2,hlt⟩:=u0 hd;have hm:=List.mem_of_getElem? hx;have hfw:=f.w_kids;have hxw:=aB.ws_mem hm;have hkl:=aB.ws_len f.kids;refine Tr.step (fun m=>by rw [fO,ltN hlt,cond_true,aK hx,Option.bind_some]) (Tr.bind (oU x) ?_);rw [aB.fls_eq];have hgo:=fun acc=>zhT hF hw ih xs (k+1) acc hd2 hlt
   cases hdx:aN x with
   | true =>
     rw [cond_true];exact Tr.tt rfl (Tr.eq (fun m=>by rw [cQ]) (hgo acc ha))
   | false =>
     rw [cond_false];refine Tr.ff rfl ?_;have one:fD xs=false->Tr (fun m=>iV m f hs (k:Int) (aB.cnts acc:Int) acc false) (zmL f acc (ziz (match x.fl hs with
       | none=>none
       | some y=>some [y]) (aB.fls xs hs))):=by
      intro hn;have hFx:=hF.kid hx hdx (by rw [hd2];exact hn);refine Tr.step (fun m=>by rw [iV,cond_false]) (Tr.step (fun m=>by rw [iU,decide_eq_false (by omega),cond_false]) ?_);have:=zhS (f:=f) (hs:=hs) k x hx (by omega) false (fun _=>hs) 1 (by omega) (by omega) (fun i _=>rfl) (fun i _=>ih x hm v hs hFx) (fun i _=>hFx) (o:=aB.fls xs hs) (fun acc' ha'=>hgo acc' ha') 1 0 rfl acc ha;have e:zcF (fun _:Nat=>x.fl hs) 0 1=(match x.fl hs with
       | none=>none
       | some y=>some [y]):=by
       cases hxf:x.fl hs with
       | none=>simp only [zcF,hxf]
       | some y=>simp only [zcF,hxf]
      rw [e] at this;exact this
     rcases zbS hd with ⟨hz,hl⟩ | ⟨y,ys,hz,hy,hl⟩
     ·subst hz;rw [show fD ([]:List aB)=false from rfl,cond_false];exact Tr.ff (decide_eq_false (by omega)) (one rfl)
     ·refine Tr.tt (decide_eq_true (by omega)) (Tr.eq (fun m=>by rw [cQ,aK hy,Option.bind_some]) (Tr.bind (oU y) ?_));have hnx:fD xs=aN y:=by rw [hz];rfl
      cases hdy:aN y with
      | false =>
        rw [hnx,hdy,cond_false];exact one (by rw [hnx,hdy])
      | true =>
        rw [hnx,hdy,cond_true];obtain ⟨r1,r2⟩:=hF.row hx hdx (by rw [hd2,hnx,hdy]);obtain ⟨hall,hsl⟩:=x8 hF.hv;refine Tr.step (fun m=>by rw [iV,cond_true,aK hx,Option.bind_some]) (Tr.bind (zrg x hall) ?_);cases hc:zcG x (-1) hs with
        | none =>
          rw [zhx];exact Tr.step (fun m=>by rw [iU];rfl) Tr.val
        | some N =>
          obtain ⟨c0,c1,c2⟩:=zl7 hF.hv r1 hc;have hFi:∀ i,i < N.toNat->wS l (v+1) (wI x i hs) x:=fun i hi=>r2 i (fun h hh hdp=>by rw [c2 h hh hdp];exact hi)
          refine Tr.step (fun m=>by rw [iU,decide_eq_false (show ¬ N < 0 by omega),cond_false]) ?_;have:=zhS (f:=f) (hs:=hs) k x hx (by omega) true (fun i=>wI x i hs) N.toNat (by omega) (by omega) (fun i hi=>ztl x i hall hsl (fun h hh hdp=>by rw [c2 h hh hdp];exact hi)) (fun i hi=>ih x hm (v+1) _ (hFi i hi)) hFi (o:=aB.fls xs hs) (fun acc' ha'=>hgo acc' ha') N.toNat 0 (by omega) acc ha;rw [Int.toNat_of_nonneg c0] at this;exact this
end
theorem znI (l:List (aB × Int)):∀ (n:Nat) (f:aB),f.w<=n->f.w<=2 ^ 30->∀ v hs,wS l v hs f->Tr (fun m=>lE m f hs) (match f.fl hs with
  | some y=>(y,true)
  | none=>(f,false)):=by
 intro n;induction n with
 | zero=>intro f h;have:=f.w_kids;omega
 | succ n ih =>
   intro f hn hw v hs hF;have hfw:=f.w_kids;rw [aB.fl_eq];obtain ⟨d,hok⟩:=hF.ok;have rest:Tr (fun m=>iW m f hs (-1)) (match (match aB.fls f.kids hs with
     | none=>none
     | some ys=>bif decide (aB.cnts ys<=400) then some (aB.mk f.kind f.name f.n f.scopes ys) else none) with
    | some y=>(y,true)
    | none=>(f,false)):=by
    refine Tr.step (fun m=>by rw [iW,decide_eq_false (by omega),cond_false]) ?_;refine Tr.chk (decide_eq_true (by simp;omega)) ?_;have:=zhT hF hw (fun x hx v' hs' hF'=>ih x (by have:=aB.ws_mem hx;omega) (by have:=aB.ws_mem hx;omega) v' hs' hF') f.kids 0 [] (by rw [List.drop_zero]) (Nat.zero_le _) (by rw [aB.cnts];omega);cases hf:aB.fls f.kids hs with
    | none=>rw [hf] at this;exact this
    | some ys =>
      rw [hf,zhw,List.nil_append] at this;simp only;cases hc:decide (aB.cnts ys<=400) with
      | true=>rw [hc,cond_true] at this;rw [cond_true];exact this
      | false=>rw [hc,cond_false] at this;rw [cond_false];exact this
   refine Tr.step (fun m=>by rw [lE]) ?_;by_cases h1:f.kind=1
   ·rw [decide_eq_true h1,cond_true];refine Tr.tt rfl (Tr.bind (zpL hs f) ?_);unfold znp;rcases hF.leaf with hl | ⟨i,h,hl,hi,h0,hv⟩
    ·rw [hl,decide_eq_false (by omega),cond_false];have hk:f.kids=[]:=(oV hok).1 (by omega);have e:aB.mk f.kind f.name f.n f.scopes []=f:=by
      obtain ⟨a,b,c,dd,ee⟩:=f;replace hk:ee=[]:=hk;subst hk;rfl
     have e3:decide (aB.cnts []<=400)=true:=decide_eq_true (by rw [aB.cnts];omega);have e2:(match aB.fls f.kids hs with
      | none=>none
      | some ys=>bif decide (aB.cnts ys<=400) then some (aB.mk f.kind f.name f.n f.scopes ys) else none)=some f:=by
      rw [hk,aB.fls];simp only;rw [e3,cond_true,e]
     rw [e2] at rest;exact rest
    ·rw [hl,decide_eq_true (by omega),cond_true,Int.toNat_natCast,List.getD_eq_getElem?_getD,hi,Option.getD_some];have:=wY hv;refine Tr.step (fun m=>by rw [iW,decide_eq_true (by omega),cond_true,aK hi,Option.bind_some]) (Tr.bind (zpN _ h.one (Nat.le_refl _) (by omega)) ?_);refine Tr.eq (fun m=>by rw [Option.bind_some,h0]) ?_;exact Tr.val
   ·rw [decide_eq_false h1,cond_false];exact Tr.ff rfl rest
end Go.Abs
end
section
set_option linter.unusedVariables false
set_option linter.unusedSimpArgs false
namespace Go.Abs
noncomputable def zqs (o:Option aB):aB × Bool:=match o with
 | some y=>bif y.valid then (y,true) else (mF,false)
 | none=>(mF,false)
noncomputable def ziy (t:aB) (hs:List Hit):aB × Bool:=bif zgY hs&&yZ t (nd hs) then zqs (t.fl hs) else (mF,false)
theorem zbs {t:aB} {l:List (aB × Int)} (h:yZ t l=true):t.valid=true/\aN t=false/\t.dotsOk false=true/\t.rws l 0=true:=by
 unfold yZ at h;simp only [Bool.and_eq_true,Bool.not_eq_true'] at h;exact ⟨h.1,h.2.1,h.2.2.1,h.2.2.2⟩
theorem zne {t:aB} {hs:List Hit} (hv:zgY hs=true) (ht:yZ t (nd hs)=true):wS (nd hs) 0 hs t:=by
 obtain ⟨h1,h2,h3,h4⟩:=zbs ht;unfold aB.valid at h1;rw [Bool.and_eq_true] at h1;exact ⟨hv,h4,⟨40,h1.1⟩,fun g _ _=>by simp⟩
theorem zdn (t:aB) (hs:List Hit) (hf:t.fit) (hb:t.w<=2 ^ 36) (hl:Hit.fits hs) (hlb:Hit.ws hs<=2 ^ 36) (hfo:∀ y,t.fl hs=some y->y.fit):Tr (fun m=>gU m t hs) (ziy t hs):=by
 refine Tr.eq (fun m=>by unfold gU;rfl) (Tr.bind (zcm t hs hf hb hl hlb) ?_);unfold ziy;cases hg:(zgY hs&&yZ t (nd hs)) with
 | false=>exact Tr.tt rfl Tr.val
 | true =>
 rw [Bool.and_eq_true] at hg;have hS:=zne hg.1 hg.2;have hw:=wY (zbs hg.2).1;refine Tr.ff rfl (Tr.bind (zn4 (nd hs) _ t (Nat.le_refl _) (by omega) 0 hs hS) ?_);rw [cond_true];unfold zqs;cases hfl:t.fl hs with
 | none=>exact Tr.tt rfl Tr.val
 | some y =>
   have hyw:=(zoA hS hfl).w;dsimp only;refine Tr.eq (fun m=>by rw [Bool.not_true,cond_false]) (Tr.bind (v:=bif y.valid then (y,true) else (mF,false)) ?_ ?_)
   ·refine Tr.eq (fun m=>by unfold rJ;rfl) (Tr.bind (mR y (hfo y hfl)) ?_);cases y.valid with
    | false=>exact Tr.tt rfl Tr.val
    | true=>exact Tr.ff rfl (Tr.bind (u3 y (by omega)) Tr.val)
   ·cases y.valid<;>exact Tr.val
theorem zqJ {P:aB->Prop} {D:Nat->Option aB} (hD:∀ i y,D i=some y->P y):∀ {k n:Nat} {r:List aB},zcF D n k=some r->∀ y∈r,P y:=fun h y hy=>by
 obtain ⟨i,_,_,hi⟩:=zjN h y hy;exact hD i y hi
theorem zm3 {x:aB} {n:Nat}:∀ {hs:List Hit},Hit.fits hs->Hit.fits (wI x n hs)
 | [],h=>h
 | h::hs,hf=>by
   rw [Hit.fits] at hf
   show Hit.fits ((bif mC x h then h.many.getD n zdC else h)::wI x n hs)
   rw [Hit.fits];refine ⟨?_,zm3 hf.2⟩;cases mC x h with
   | false=>exact hf.1
   | true =>
     rw [cond_true];by_cases hn:n < h.many.length
     ·have hm:=zgQ hn;have:=hf.1;obtain ⟨a,b,c,d⟩:=h;rw [Hit.fit] at this;exact Hit.fits_mem this.2.2.2 hm
     ·rw [List.getD_eq_getElem?_getD,List.getElem?_eq_none (by omega)];exact znc
theorem zmj {h:Hit} (hf:h.fit):h.one.fit:=by
 obtain ⟨a,b,c,d⟩:=h;rw [Hit.fit] at hf;exact hf.2.1
theorem zq9:∀ (n:Nat) (f:aB),f.w<=n->f.fit->∀ hs,Hit.fits hs->∀ y,f.fl hs=some y->y.fit:=by
 intro n;induction n with
 | zero=>intro f h;have:=f.w_kids;omega
 | succ n ih =>
   intro f hn hf hs hl y hy;have hw:=f.w_kids;rw [aB.fl_eq] at hy;by_cases h1:f.kind=1
   ·rw [decide_eq_true h1,cond_true] at hy;cases hy;unfold znp;cases hd:decide (0<=hAt hs f) with
    | false=>exact hf
    | true =>
      rw [cond_true];rcases zmH (D:=fun y:Hit=>same y.name f) (l:=hs) (k:=0) with ⟨h2,_⟩ | ⟨i,h,h2,h3,_,_⟩
      ·have:=of_decide_eq_true hd;unfold hAt at this;omega
      ·unfold hAt;rw [h2,Nat.zero_add,Int.toNat_natCast,List.getD_eq_getElem?_getD,h3,Option.getD_some];exact zmj (Hit.fits_mem hl (List.mem_of_getElem? h3))
   ·rw [decide_eq_false h1,cond_false] at hy;cases hfs:aB.fls f.kids hs with
    | none=>simp [hfs] at hy
    | some ys =>
      rw [hfs] at hy;simp only at hy;cases hc:decide (aB.cnts ys<=400) with
      | false=>rw [hc] at hy;cases hy
      | true =>
        rw [hc,cond_true] at hy;cases hy;have key:∀ (zs:List aB),(∀ x∈zs,x∈f.kids)->∀ r,aB.fls zs hs=some r->∀ y∈r,y.fit:=by
         intro zs;induction zs with
         | nil=>intro _ r hr y hy;rw [aB.fls] at hr;cases hr;cases hy
         | cons x xs ihz =>
           intro hm r hr y hy;have hxm:=hm x (by simp);have hxw:=aB.ws_mem hxm;have hxf:=aB.fits_mem hf.parts.2.2.2 hxm;rw [aB.fls_eq] at hr;cases hdx:aN x with
           | true=>rw [hdx,cond_true] at hr;exact ihz (fun z hz=>hm z (by simp [hz])) r hr y hy
           | false =>
             rw [hdx,cond_false] at hr;obtain ⟨a,b,ha,hb,rfl⟩:=zlg hr;rcases List.mem_append.1 hy with hy | hy
             ·cases hnx:fD xs with
              | false =>
                rw [hnx,cond_false] at ha;cases hxfl:x.fl hs with
                | none=>rw [hxfl] at ha;cases ha
                | some z =>
                  rw [hxfl] at ha;cases ha;rw [List.mem_singleton] at hy;subst hy;exact ih x (by omega) hxf hs hl _ hxfl
              | true =>
                rw [hnx,cond_true] at ha;cases hcn:zcG x (-1) hs with
                | none=>rw [hcn] at ha;cases ha
                | some N =>
                  rw [hcn] at ha;exact zqJ (fun i y hiy=>ih x (by omega) hxf _ (zm3 hl) y hiy) ha y hy
             ·exact ihz (fun z hz=>hm z (by simp [hz])) b hb y hy
        have hcl:=zdI ys;have hc:=of_decide_eq_true hc;have hp:=hf.parts;rw [aB.fit];exact ⟨hp.1,hp.2.1,by omega,aB.fits_of_mem (key f.kids (fun x hx=>hx) ys hfs)⟩
theorem zrP {f y:aB} {hs:List Hit} (hf:f.fit) (hl:Hit.fits hs) (h:f.fl hs=some y):y.fit:=zq9 _ f (Nat.le_refl _) hf hs hl y h
theorem zml (t:aB) (hs:List Hit):ziy t hs=(mF,false)∨∃ y,zgY hs=true/\yZ t (nd hs)=true/\t.fl hs=some y/\y.valid=true/\ziy t hs=(y,true):=by
 unfold ziy;cases hg:(zgY hs&&yZ t (nd hs)) with
 | false=>exact .inl rfl
 | true =>
   rw [Bool.and_eq_true] at hg;unfold zqs;cases hfl:t.fl hs with
   | none=>exact .inl rfl
   | some y =>
     rw [cond_true];simp only;cases hv:y.valid with
     | false=>exact .inl rfl
     | true=>exact .inr ⟨y,hg.1,hg.2,rfl,hv,rfl⟩
end Go.Abs
end
section
set_option linter.unusedVariables false
set_option linter.unusedSimpArgs false
namespace Go.Abs
noncomputable def zaX (bs:List aH) (rules:List aI) (lits:List aB) (f:aB):aB × Bool :=
 bif (zaU bs rules lits f).2 then
  (match rules[(zaU bs rules lits f).1.toNat]? with
   | some r=>ziy r.template ((r.pattern.mt bs lits f).getD [])
   | none=>(mF,false))
 else (mF,false)
theorem zbu (bs:List aH) (rules:List aI) (lits:List aB) (f:aB):(zaU bs rules lits f=(0,false))∨∃ (i:Nat) (r:aI) (h:List Hit),zaU bs rules lits f=((i:Int),true)/\rules[i]?=some r/\r.pattern.mt bs lits f=some h/\zmP bs=true/\vB rules lits=true/\f.valid=true/\∀ y∈rules.take i,zqr bs lits f y=false:=by
 unfold zaU;cases hg:(zmP bs&&(vB rules lits&&f.valid)) with
 | false=>exact .inl rfl
 | true =>
   rw [cond_true];simp only [Bool.and_eq_true] at hg;rcases zn6 (zqr bs lits f) rules with ⟨h1,_⟩ | ⟨i,x,h1,h2,h3,h4⟩
   ·exact .inl h1
   ·unfold zqr at h3;obtain ⟨h,hh⟩:=Option.isSome_iff_exists.1 h3;exact .inr ⟨i,x,h,h1,h2,hh,hg.1,hg.2.1,hg.2.2,h4⟩
theorem zru {α β:Type}:∀ {a b:List (α × β)},a.map (·.1)=b.map (·.1)->a.map (·.2)=b.map (·.2)->a=b
 | [],[],_,_=>rfl
 | [],_::_,h,_=>by simp at h
 | _::_,[],h,_=>by simp at h
 | x::xs,y::ys,h1,h2=>by
   rw [List.map_cons,List.map_cons,List.cons.injEq] at h1 h2;rw [zru h1.2 h2.2,Prod.ext h1.1 h2.1]
theorem zpz {bs:List aH} {r:aI} {lits:List aB} {f:aB} {h:List Hit} (hr:tO r lits=true) (hf:f.valid=true) (hm:r.pattern.mt bs lits f=some h):zgY h=true/\yZ r.template (nd h)=true:=by
 have hp:=zf hr;refine ⟨zsv hp hf hm,?_⟩;have e:nd h=r.pattern.vd lits 0:=zru (by rw [zoL,zdF (zG hp) hm,aB.vd_fst]) (by rw [zoK,zjT (zG hp) hm]);unfold tO at hr;simp only [Bool.and_eq_true] at hr;rw [e];exact hr.2.2.2
theorem zqU {bs:List aH} {p f:aB} {lits:List aB} {h:List Hit} (hp:zC p lits=true) (hf:f.valid=true) (hm:p.mt bs lits f=some h):Hit.ws h<=2 ^ 30:=by
 have:=mt_w (zG hp) hm;have h1:=zhd hp;have h2:=wY hf;have h4:p.w*f.w<=10400*10400:=Nat.mul_le_mul h1 h2;omega
section
variable (bs:List aH) (rules:List aI) (lits:List aB) (f:aB) (hb:∀ b∈bs,b.fit) (hbl:bs.length<=2 ^ 36) (hr:zmI rules) (hl:aB.fits lits) (hf:f.fit)
include hb hbl hr hl hf
theorem zlv:Tr (fun m=>hY m bs rules lits f) (zaX bs rules lits f):=by
 refine Tr.eq (fun m=>by unfold hY;rfl) (Tr.bind (zlu bs rules lits f hb hbl hr hl hf) ?_);unfold zaX;rcases zbu bs rules lits f with e | ⟨i,r,h,e,h1,h2,h3,h4,h5,_⟩
 ·rw [e];exact Tr.tt rfl Tr.val
 ·rw [e];have hm:=List.mem_of_getElem? h1;have hok:=(zaa h4).1 r hm;have hp:=zf hok;have hpw:=zhd hp;have hfw:=wY h5;have hrf:=hr.fit r hm;refine Tr.ff rfl (Tr.eq (fun m=>by rw [aK h1,Option.bind_some]) (Tr.bind (zh0 bs lits hbl hb h3 _ r.pattern (Nat.le_refl _) (zG hp) hrf.1 (by omega) f h5 hf (by omega)) ?_));rw [h2];simp only [cond_true,Int.toNat_natCast,h1];have hfit:=zrI hrf.1 hf h2;have hw:=zqU hp h5 h2;refine Tr.eq (fun m=>by rw [Option.bind_some];rfl) (Tr.bind (zdn r.template h hrf.2 (hr.tw r hm) hfit (by omega) (fun y hy=>zrP hrf.2 hfit hy)) ?_);rw [h2];exact Tr.val
theorem zlo (hlw:aB.ws lits<=2 ^ 36) (hfb:f.w<=2 ^ 36) (hrl:rules.length<=2 ^ 36):Tr (fun m=>nZ m bs rules lits f) (zaX bs rules lits f):=by
 have own:Tr (fun m=>j9 m rules) rules:=by
  refine Tr.eq (fun m=>by unfold j9;rfl) ?_;have key:=aX rules (fun k zs=>(∀ z∈zs,z∈rules)->∀ g:List aI,g++zs=rules->g.length=k->Tr (fun m=>cJ m rules g (k:Int)) rules) ?_ ?_ 0 (Nat.zero_le _) (fun z hz=>by simpa using hz) [] (by rw [List.drop_zero,List.nil_append]) rfl
  ·exact key
  ·intro _ g hg _;rw [List.append_nil] at hg;subst hg;exact Tr.step (fun m=>by rw [cJ,aP,cond_false]) Tr.val
  ·intro k x zs hk hx hd ih hall g hg hgl;have hm:=hall x (by simp);refine Tr.step (fun m=>by rw [cJ,ltN hk,cond_true,aK hx,Option.bind_some,cQ]) ?_;refine Tr.bind (v:=x) (Tr.eq (fun m=>by unfold rN;rfl) (Tr.bind (zjc x.pattern (hr.pw x hm)) (Tr.bind (zjc x.template (hr.tw x hm)) ?_))) ?_
   ·obtain ⟨a,b⟩:=x;exact Tr.val
   ·refine Tr.chk (decide_eq_true (by simp;omega)) (ih (fun z hz=>hall z (by simp [hz])) (g++[x]) (by rw [List.append_assoc];exact hg) (by simp [hgl]))
 refine Tr.eq (fun m=>by unfold nZ;rfl) (Tr.bind own (Tr.bind (zln bs rules lits f hb hbl hr hl hlw hf hfb) ?_));unfold zaX;rcases zbu bs rules lits f with e | ⟨i,r,h,e,h1,h2,h3,h4,h5,_⟩
 ·rw [e];exact Tr.tt rfl Tr.val
 ·rw [e];have hm:=List.mem_of_getElem? h1;have hok:=(zaa h4).1 r hm;have hp:=zf hok;have hpw:=zhd hp;have hfw:=wY h5;have hrf:=hr.fit r hm;refine Tr.ff rfl (Tr.eq (fun m=>by rw [aK h1,Option.bind_some]) ?_);simp only [cond_true,Int.toNat_natCast,h1,h2,Option.getD_some];obtain ⟨g1,g2⟩:=zpz hok h5 h2;have hS:=zne g1 g2;have htw:=wY (zbs g2).1;have hfit:=zrI hrf.1 hf h2;refine TQ.tr ?_;refine TQ.bind (zkZ bs lits hbl _ r.pattern (Nat.le_refl _) (zG hp) (by omega) f (by omega)) (fun q hq=>?_);obtain ⟨q1,q2⟩:=hq;have qq:=q2 h h2;rw [List.nil_append] at qq;rw [qq];refine TQ.same (v:=ziy r.template h) ?_;refine Tr.eq (fun m=>by rw [Option.bind_some]) (Tr.bind (znI (nd h) _ r.template (Nat.le_refl _) (by omega) 0 h hS) ?_);unfold ziy;rw [g1,g2,Bool.and_self,cond_true];unfold zqs;cases hfl:r.template.fl h with
  | none=>exact Tr.tt rfl Tr.val
  | some y =>
    have hyw:=(zoA hS hfl).w;dsimp only;refine Tr.eq (fun m=>by rw [Bool.not_true,cond_false]) (Tr.bind (oX y (zrP hrf.2 hfit hfl) (by omega)) ?_);cases y.valid with
    | false=>exact Tr.eq (fun m=>by rw [Bool.not_false,cond_true];rfl) Tr.val
    | true=>exact Tr.eq (fun m=>by rw [Bool.not_true,cond_false];rfl) Tr.val
end
theorem zmt {bs:List aH} {rules:List aI} {lits:List aB} {f:aB} (h:zaU bs rules lits f=(0,false)):zaX bs rules lits f=(mF,false):=by
 unfold zaX;rw [h];rfl
theorem zms {bs:List aH} {rules:List aI} {lits:List aB} {f:aB} {i:Nat} {r:aI} {hs:List Hit} (h:zaU bs rules lits f=((i:Int),true)) (h1:rules[i]?=some r) (h2:r.pattern.mt bs lits f=some hs):zaX bs rules lits f=ziy r.template hs:=by
 unfold zaX;rw [h];simp only [cond_true,Int.toNat_natCast,h1,h2,Option.getD_some]
end Go.Abs
end
section
set_option linter.unusedVariables false
set_option linter.unusedSimpArgs false
set_option maxHeartbeats 4000000
namespace Go.Abs
section
variable {α:Type}
theorem xD (d:List α) (x:α) (xs:List α):decide ((d.length:Int) < ((d++x::xs).length:Int))=true:=by simp;omega
theorem xE (d:List α):decide ((d.length:Int) < ((d++[]).length:Int))=false:=by simp
theorem uZ (d:List α) (x:α) (xs:List α):idx (d++x::xs) (d.length:Int)=some x:=aK (by simp)
theorem zbY (d:List α) (x y:α) (xs:List α):(d++x::xs).set ((d.length:Int)).toNat y=d++y::xs:=by simp
theorem pK (d:List α) (y:α) (xs:List α):d++y::xs=(d++[y])++xs:=by simp
theorem zbZ (d:List α) (y:α):(d.length:Int)+1=((d++[y]).length:Int):=by simp
theorem zcQ (d:List α) (y:α) (h:d.length<=4611686018427387904):w64 ((d.length:Int)+1)=((d++[y]).length:Int):=by
 rw [bT (by omega)];simp
end
theorem y7 {k:Int} (h0:0<=k) (h1:k<=4611686018427387904):w64 (k+1)=k+1:=bT (by omega)
theorem fE {α:Type} [DecidableEq α] (x:α):decide (x≠x)=false:=by simp
theorem nO {k:Int} (h:0<=k):decide (k < 0)=false:=by simpa using h
theorem zj3:∀ (n:Nat) (k:Nat) (s:ByteArray),k < 2 ^ n->s.size+n<=1000->n<=63->∃ t,Tr (fun m=>eZ m (k:Int) s) t:=by
 intro n;induction n with
 | zero =>
   intro k s hk hs hn;have:k=0:=by omega
   subst this;refine ⟨(⟨#[109]⟩:ByteArray)++s,Tr.step (fun m=>by rw [eZ,show decide ((0:Int) < ((0:Nat):Int))=false from rfl,cond_false]) (Tr.of fun m=>?_)⟩
   ·rw [zrr,decide_eq_true (by have:(⟨#[109]⟩:ByteArray).size=1:=rfl;omega)];rfl
 | succ n ih =>
   intro k s hk hs hn;by_cases h0:k=0
   ·subst h0;refine ⟨(⟨#[109]⟩:ByteArray)++s,Tr.step (fun m=>by rw [eZ,show decide ((0:Int) < ((0:Nat):Int))=false from rfl,cond_false]) (Tr.of fun m=>?_)⟩
    ·rw [zrr,decide_eq_true (by have:(⟨#[109]⟩:ByteArray).size=1:=rfl;omega)];rfl
   ·have hk2:k / 10 < 2 ^ n:=by rw [Nat.pow_succ] at hk;omega
    have hp:(2:Nat) ^ (n+1)<=2 ^ 63:=Nat.pow_le_pow_right (by omega) (by omega);have hsz:(zes [(w8 (w64 (48+((k:Int).tmod 10))))]).size=1:=rfl;have hsz2:(zes [(w8 (w64 (48+((k:Int).tmod 10))))]++s).size=1+s.size:=by rw [ByteArray.size_append,hsz]
    obtain ⟨t,ht⟩:=ih (k / 10) (zes [(w8 (w64 (48+((k:Int).tmod 10))))]++s) hk2 (by rw [hsz2];omega) (by omega);refine ⟨t,Tr.step (fun m=>by rw [eZ,decide_eq_true (show (0:Int) < (k:Int) by omega),cond_true,zrr,decide_eq_true (by rw [hsz];omega),cond_true,Option.bind_some]) ?_⟩;refine Tr.eq (fun m=>?_) ht;have:w64 ((k:Int).tdiv 10)=((k / 10:Nat):Int):=by
     rw [show ((k:Int).tdiv 10)=((k / 10:Nat):Int) from rfl,bT (by omega)]
    rw [this]
theorem zad {k:Int} (h0:0<=k) (h1:k<=4611686018427387905):∃ t,Tr (fun m=>eE m k) t:=by
 by_cases hk:k<=0
 ·exact ⟨_,Tr.of fun m=>by rw [eE,decide_eq_true hk];rfl⟩
 ·obtain ⟨n,rfl⟩:=Int.eq_ofNat_of_zero_le h0;obtain ⟨t,ht⟩:=zj3 63 n ⟨#[]⟩ (by omega) (by decide) (Nat.le_refl _);exact ⟨t,Tr.eq (fun m=>by rw [eE,decide_eq_false hk,cond_false]) ht⟩
def MH {α:Type} (M:Nat->List α->Int->Option (Int × List α)) (H:Nat->List α->Int->Option Int) (l:List α) (b:Nat):Prop :=
 ∀ k:Int,0<=k->k+b<=4611686018427387904->∃ v ys,Tr (fun m=>M m l k) (v,ys)/\k<=v/\v<=k+b/\Tr (fun m=>H m ys k) v
theorem zfM:∀ (xs d:List Int) (k:Int),0<=k->k+xs.length<=4611686018427387904->∃ v ys,Tr (fun m=>f8 m k (d.length:Int) (d++xs)) (v,d++ys)/\k<=v/\v<=k+xs.length/\∀ d':List Int,Tr (fun m=>f9 m (d'++ys) k (d'.length:Int)) v
 | [],d,k,h0,h1=>⟨k,[],Tr.step (fun m=>by rw [f8,xE,cond_false]) Tr.val,Int.le_refl _,by omega,fun d'=>Tr.step (fun m=>by rw [f9,xE,cond_false]) Tr.val⟩
 | x::xs,d,k,h0,h1=>by
   rw [List.length_cons] at h1;obtain ⟨v,ys,a1,a2,a3,a4⟩:=zfM xs (d++[k]) (k+1) (by omega) (by omega);refine ⟨v,k::ys,?_,by omega,by rw [List.length_cons];omega,fun d'=>?_⟩
   ·refine Tr.step (fun m=>by rw [f8,xD,cond_true,uZ,Option.bind_some,zbY]) ?_;refine Tr.eq (fun m=>?_) (pK d k ys ▸ a1);rw [y7 h0 (by omega),zbZ d k,pK d k xs]
   ·refine Tr.step (fun m=>by rw [f9,xD,cond_true,uZ,Option.bind_some,fE,cond_false]) ?_;refine Tr.eq (fun m=>?_) (a4 (d'++[k]));rw [y7 h0 (by omega),zbZ d' k,pK d' k ys]
theorem zoz (l:List Int):MH iI jX l l.length:=fun k h0 h1=>by
 obtain ⟨v,ys,a1,a2,a3,a4⟩:=zfM l [] k h0 h1;exact ⟨v,ys,Tr.eq (fun m=>by unfold iI;rfl) a1,a2,a3,Tr.eq (fun m=>by unfold jX;rfl) (a4 [])⟩
theorem zaf:∀ (xs d:List aB) (k:Int),(∀ x∈xs,MH cV dK x.kids (3*aB.ws x.kids))->d.length+xs.length<=4611686018427387904->0<=k->k+(3*aB.ws xs:Nat)<=4611686018427387904 ->
  ∃ v ys,Tr (fun m=>fI m k (d.length:Int) (d++xs)) (v,d++ys)/\k<=v/\v<=k+(3*aB.ws xs:Nat)/\∀ d':List aB,Tr (fun m=>fJ m (d'++ys) k (d'.length:Int)) v
 | [],d,k,ih,hl,h0,h1=>⟨k,[],Tr.step (fun m=>by rw [fI,xE,cond_false]) Tr.val,Int.le_refl _,by omega,fun d'=>Tr.step (fun m=>by rw [fJ,xE,cond_false]) Tr.val⟩
 | .mk kd nm nn sc ks::xs,d,k,ih,hl,h0,h1=>by
   rw [aB.ws,aB.w] at h1;rw [List.length_cons] at hl;obtain ⟨t,ht⟩:=zad (k:=k+1) (by omega) (by omega);obtain ⟨v1,a,b1,b2,b3,b4⟩:=zoz sc (k+1+1+1) (by omega) (by omega);obtain ⟨v2,b,c1,c2,c3,c4⟩:=ih _ (List.mem_cons_self ..) v1 (by omega) (by show v1+(3*aB.ws ks:Nat)<=_;omega);have c3':v2<=v1+(3*aB.ws ks:Nat):=c3;obtain ⟨v,ys,a1,a2,a3,a4⟩:=zaf xs (d++[.mk k t (k+1+1) a b]) v2 (fun x hx=>ih x (List.mem_cons_of_mem _ hx)) (by simp;omega) (by omega) (by omega);have e1:=y7 h0 (by omega);have e2:=y7 (k:=k+1) (by omega) (by omega);have e3:=y7 (k:=k+1+1) (by omega) (by omega);refine ⟨v,.mk k t (k+1+1) a b::ys,?_,by omega,by rw [aB.ws,aB.w];omega,fun d'=>?_⟩
   ·refine Tr.step (fun m=>by rewrite [fI];simp only [aB.kind,aB.name,aB.n,aB.scopes,aB.kids,xD,cond_true,uZ,Option.bind_some,zbY,e1,e2,e3];rfl) ?_;refine Tr.bind ht ?_;refine Tr.bind b1 ?_;refine Tr.bind c1 ?_;refine Tr.eq (fun m=>?_) (pK d (.mk k t (k+1+1) a b) ys ▸ a1);rw [<- pK,<- zcQ _ _ (by omega)]
   ·refine Tr.step (fun m=>by rewrite [fJ];simp only [aB.kind,aB.name,aB.n,aB.scopes,aB.kids,xD,cond_true,uZ,Option.bind_some,e1,e2,e3];rfl) ?_;refine Tr.ff (fE k) ?_;refine Tr.bind ht (Tr.ff (fE t) (Tr.ff (fE (k+1+1)) ?_));refine Tr.bind b4 (Tr.ff (nO (by omega)) ?_);refine Tr.bind c4 (Tr.ff (nO (by omega)) ?_);refine Tr.eq (fun m=>?_) (a4 (d'++[.mk k t (k+1+1) a b]));rw [<- pK,<- zbZ]
theorem zqW:∀ (n:Nat) (l:List aB),aB.ws l<=n->MH cV dK l (3*aB.ws l):=by
 intro n;induction n with
 | zero =>
   intro l hl k h0 h1;have hx:=aB.ws_len l;have:l=[]:=List.eq_nil_of_length_eq_zero (by omega);subst this;obtain ⟨v,ys,a1,a2,a3,a4⟩:=zaf [] [] k (fun x hx=>by cases hx) (by simp) h0 h1;exact ⟨v,ys,Tr.step (fun m=>by rw [cV];rfl) a1,a2,a3,Tr.step (fun m=>by rw [dK];rfl) (a4 [])⟩
 | succ n ih =>
   intro l hl k h0 h1;have hx:=aB.ws_len l;obtain ⟨v,ys,a1,a2,a3,a4⟩:=zaf l [] k (fun x hx=>ih _ (by
    have:=aB.ws_mem hx;obtain ⟨p1,p2,p3,p4,p5⟩:=x;rw [aB.w] at this
    show aB.ws p5<=n
    omega)) (by simp only [List.length_nil];omega) h0 h1
   exact ⟨v,ys,Tr.step (fun m=>by rw [cV];rfl) a1,a2,a3,Tr.step (fun m=>by rw [dK];rfl) (a4 [])⟩
theorem zjC (l:List aB):MH cV dK l (3*aB.ws l):=zqW _ l (Nat.le_refl _)
theorem zrJ (f:aB) (k:Int) (h0:0<=k) (h1:k+(3*f.w:Nat)<=4611686018427387904):∃ v a b,Tr (fun m=>nR m f k) (v,a,b)/\k<=v/\v<=k+(3*f.w:Nat)/\∀ kd nm nn,Tr (fun m=>nS m (.mk kd nm nn a b) k) v:=by
 obtain ⟨p1,p2,p3,p4,p5⟩:=f;rw [aB.w] at h1 ⊢;obtain ⟨v1,a,b1,b2,b3,b4⟩:=zoz p4 k h0 (by omega);obtain ⟨v2,b,c1,c2,c3,c4⟩:=zjC p5 v1 (by omega) (by omega);refine ⟨v2,a,b,?_,by omega,by omega,fun kd nm nn=>?_⟩
 ·refine Tr.eq (fun m=>by unfold nR;rfl) ?_;exact Tr.bind b1 (Tr.bind c1 Tr.val)
 ·refine Tr.eq (fun m=>by unfold nS;rfl) ?_;refine Tr.bind b4 (Tr.ff (nO (by omega)) ?_);refine Tr.bind c4 (Tr.ff (nO (by omega)) Tr.val)
def aI.mws:List aI->Nat
 | []=>0
 | r::rs=>1+r.pattern.w+r.template.w+aI.mws rs
theorem aI.mws_len:∀ l:List aI,l.length<=aI.mws l
 | []=>Nat.le_refl _
 | r::rs=>by have:=aI.mws_len rs;rw [aI.mws,List.length_cons];omega
theorem zdW:∀ (xs d:List aI) (k:Int),d.length+xs.length<=4611686018427387904->0<=k->k+(3*aI.mws xs:Nat)<=4611686018427387904 ->
  ∃ v ys,Tr (fun m=>fH m k (d.length:Int) (d++xs)) (v,d++ys)/\k<=v/\v<=k+(3*aI.mws xs:Nat)/\∀ d':List aI,Tr (fun m=>l9 m (d'++ys) k (d'.length:Int)) v
 | [],d,k,hl,h0,h1=>⟨k,[],Tr.step (fun m=>by rw [fH,xE,cond_false]) Tr.val,Int.le_refl _,by omega,fun d'=>Tr.step (fun m=>by rw [l9,xE,cond_false]) Tr.val⟩
 | .mk (.mk kd nm nn sc ks) (.mk kd' nm' nn' sc' ks')::xs,d,k,hl,h0,h1=>by
   rw [aI.mws,aI.pattern,aI.template,aB.w,aB.w] at h1;rw [List.length_cons] at hl;obtain ⟨t,ht⟩:=zad (k:=k+1) (by omega) (by omega);obtain ⟨v1,a,b1,b2,b3,b4⟩:=zoz sc (k+1+1+1) (by omega) (by omega);obtain ⟨v2,b,c1,c2,c3,c4⟩:=zjC ks v1 (by omega) (by omega);obtain ⟨t',ht'⟩:=zad (k:=v2+1) (by omega) (by omega);obtain ⟨v3,a',d1,d2,d3,d4⟩:=zoz sc' (v2+1+1+1) (by omega) (by omega);obtain ⟨v5,b',e1,e2,e3,e4⟩:=zjC ks' v3 (by omega) (by omega);obtain ⟨v,ys,a1,a2,a3,a4⟩:=zdW xs (d++[.mk (.mk k t (k+1+1) a b) (.mk v2 t' (v2+1+1) a' b')]) v5 (by simp;omega) (by omega) (by omega);have w1:=y7 h0 (by omega);have w2:=y7 (k:=k+1) (by omega) (by omega);have w3:=y7 (k:=k+1+1) (by omega) (by omega);have w4:=y7 (k:=v2) (by omega) (by omega);have w5:=y7 (k:=v2+1) (by omega) (by omega);have w6:=y7 (k:=v2+1+1) (by omega) (by omega);refine ⟨v,.mk (.mk k t (k+1+1) a b) (.mk v2 t' (v2+1+1) a' b')::ys,?_,by omega,by rw [aI.mws,aI.pattern,aI.template,aB.w,aB.w];omega,fun d'=>?_⟩
   ·refine Tr.step (fun m=>by rewrite [fH];simp only [aB.kind,aB.name,aB.n,aB.scopes,aB.kids,aI.pattern,aI.template,xD,cond_true,uZ,Option.bind_some,zbY,w1,w2,w3];rfl) ?_;refine Tr.bind ht (Tr.bind b1 (Tr.bind c1 ?_));refine Tr.eq (fun m=>by simp only [w4,w5,w6];rfl) (Tr.bind ht' ?_);refine Tr.bind d1 (Tr.bind e1 ?_);refine Tr.eq (fun m=>?_) (pK d (.mk (.mk k t (k+1+1) a b) (.mk v2 t' (v2+1+1) a' b')) ys ▸ a1);rw [<- pK,<- zcQ _ _ (by omega)]
   ·refine Tr.step (fun m=>by rewrite [l9];simp only [aB.kind,aB.name,aB.n,aB.scopes,aB.kids,aI.pattern,aI.template,xD,cond_true,uZ,Option.bind_some,w1,w2,w3];rfl) ?_;refine Tr.ff (fE k) ?_;refine Tr.bind ht (Tr.ff (fE t) (Tr.ff (fE (k+1+1)) ?_));refine Tr.bind b4 (Tr.ff (nO (by omega)) ?_);refine Tr.bind c4 (Tr.ff (nO (by omega)) ?_);refine Tr.eq (fun m=>by simp only [w4,w5,w6];rfl) ?_;refine Tr.ff (fE v2) ?_;refine Tr.bind ht' (Tr.ff (fE t') (Tr.ff (fE (v2+1+1)) ?_));refine Tr.bind d4 (Tr.ff (nO (by omega)) ?_);refine Tr.bind e4 (Tr.ff (nO (by omega)) ?_);refine Tr.eq (fun m=>?_) (a4 (d'++[.mk (.mk k t (k+1+1) a b) (.mk v2 t' (v2+1+1) a' b')]));rw [<- pK,<- zbZ]
theorem zsw (l:List aI):MH o8 zax l (3*aI.mws l):=fun k h0 h1=>by
 have hx:=aI.mws_len l;obtain ⟨v,ys,a1,a2,a3,a4⟩:=zdW l [] k (by simp only [List.length_nil];omega) h0 h1;exact ⟨v,ys,Tr.eq (fun m=>by unfold o8;rfl) a1,a2,a3,Tr.eq (fun m=>by unfold zax;rfl) (a4 [])⟩
end Go.Abs
end
section
set_option linter.unusedVariables false
set_option linter.unusedSimpArgs false
namespace Go.Abs
theorem aI.mws_wt:∀ l:List aI,aI.mws l<=3*l.length+2*zkt aI.wt l
 | []=>Nat.zero_le _
 | r::rs=>by
   have h:=aI.mws_wt rs;have a:=r.pattern.w_wt;have b:=r.template.w_wt;have e:r.wt=r.pattern.wt+r.template.wt:=rfl;rw [aI.mws,List.length_cons,zkt];omega
end Go.Abs
end
section
set_option linter.unusedVariables false
set_option linter.unusedSimpArgs false
namespace Go.Abs
theorem zsD (t:aB) (hs:List Hit):(ziy t hs).1.w<=10426:=by
 rcases zml t hs with h | ⟨y,_,_,_,h4,h5⟩
 ·rw [h];decide
 ·rw [h5];exact Nat.le_trans (wY h4) (by decide)
end Go.Abs
end
section
set_option linter.unusedVariables false
set_option linter.unusedSimpArgs false
namespace Go.Abs
theorem zrk (bs:List aH) (rules:List aI) (lits:List aB) (f:aB):(zaX bs rules lits f).1.w<=10426:=by
 rcases zbu bs rules lits f with e | ⟨i,r,h,e,h1,h2,_⟩
 ·rw [zmt e];decide
 ·rw [zms e h1 h2];exact zsD _ _
def aH.mws:List aH->Nat
 | []=>0
 | b::bs=>2+b.scopes.length+aH.mws bs
theorem aH.mws_len:∀ l:List aH,l.length<=aH.mws l
 | []=>Nat.le_refl _
 | b::bs=>by have:=aH.mws_len bs;rw [aH.mws,List.length_cons];omega
theorem aH.mws_wt:∀ l:List aH,aH.mws l<=2*l.length+zkt aH.wt l
 | []=>Nat.zero_le _
 | b::bs=>by
   have:=aH.mws_wt bs;have e:b.wt=b.name.size+b.scopes.length:=rfl;rw [aH.mws,List.length_cons,zkt];omega
theorem zdX:∀ (xs d:List aH) (k:Int),d.length+xs.length<=4611686018427387904->0<=k->k+(aH.mws xs:Nat)<=4611686018427387904 ->
  ∃ v ys,Tr (fun m=>d9 m k (d.length:Int) (d++xs)) (v,ys)/\k<=v/\v<=k+(aH.mws xs:Nat)
 | [],d,k,hl,h0,h1=>⟨k,_,Tr.step (fun m=>by rw [d9,xE,cond_false]) Tr.val,Int.le_refl _,by omega⟩
 | .mk nm sc id::xs,d,k,hl,h0,h1=>by
   have h1':k+((2+sc.length+aH.mws xs:Nat):Int)<=4611686018427387904:=h1;rw [List.length_cons] at hl;obtain ⟨t,ht⟩:=zad (k:=k) (by omega) (by omega);obtain ⟨v1,a,b1,b2,b3,b4⟩:=zoz sc (k+1) (by omega) (by omega);obtain ⟨v,ys,a1,a2,a3⟩:=zdX xs (d++[.mk t a v1]) (v1+1) (by simp;omega) (by omega) (by omega);have w1:=y7 h0 (by omega);have w2:=y7 (k:=v1) (by omega) (by omega);refine ⟨v,ys,?_,by omega,by show v<=k+((2+sc.length+aH.mws xs:Nat):Int);omega⟩;refine Tr.step (fun m=>by rewrite [d9];simp only [aH.name,aH.scopes,aH.id,xD,cond_true,uZ,Option.bind_some,zbY,w1];rfl) ?_;refine Tr.bind ht (Tr.bind b1 ?_);refine Tr.eq (fun m=>?_) a1;rw [<- pK,<- zcQ _ _ (by omega)]
   show d9 m (w64 (v1+1)) _ _=_
   rw [w2]
theorem zsx (l:List aH) (k:Int) (h0:0<=k) (h1:k+(aH.mws l:Nat)<=4611686018427387904):∃ v ys,Tr (fun m=>o9 m l k) (v,ys)/\k<=v/\v<=k+(aH.mws l:Nat):=by
 have hx:=aH.mws_len l;obtain ⟨v,ys,a1,a2,a3⟩:=zdX l [] k (by simp only [List.length_nil];omega) h0 h1;exact ⟨v,ys,Tr.eq (fun m=>by unfold o9;rfl) a1,a2,a3⟩
theorem zbO (bs:List aH) (rules:List aI) (lits:List aB) (f:aB) (hbl:bs.length<=9223372036854775807) (hb:∀ b∈bs,b.fit) (hrl:rules.length<=9223372036854775807) (hr:∀ r∈rules,r.fit) (hll:lits.length<=9223372036854775807) (hl:aB.fits lits) (hf:f.fit) :
  TQ (fun m=>kM m bs rules lits f) (fun b=>b=true):=by
 refine TQ.eq (fun m=>by unfold kM;rfl) (TQ.bind (znG bs 1048576 hbl hb (by omega) (by omega)) (fun v hv=>?_));rcases hv with rfl | ⟨h0,rfl⟩
 ·exact TQ.cond (fun _=>TQ.val rfl) (fun h=>absurd h (by decide))
 refine TQ.cond (fun h=>absurd h (by rw [geZ h0];decide)) (fun _=>TQ.bind (znE rules _ hrl hr h0 (by omega)) (fun v hv=>?_));rcases hv with rfl | ⟨h1,rfl⟩
 ·exact TQ.cond (fun _=>TQ.val rfl) (fun h=>absurd h (by decide))
 refine TQ.cond (fun h=>absurd h (by rw [geZ h1];decide)) (fun _=>TQ.bind (znF lits _ hll hl h1 (by omega)) (fun v hv=>?_));rcases hv with rfl | ⟨h2,rfl⟩
 ·exact TQ.cond (fun _=>TQ.val rfl) (fun h=>absurd h (by decide))
 refine TQ.cond (fun h=>absurd h (by rw [geZ h2];decide)) (fun _=>TQ.bind (zdN f _ hf h2 (by omega)) (fun v hv=>?_));rcases hv with rfl | ⟨h3,rfl⟩
 ·exact TQ.cond (fun _=>TQ.val rfl) (fun h=>absurd h (by decide))
 refine TQ.cond (fun h=>absurd h (by rw [geZ h3];decide)) (fun _=>?_);have hfw:=f.w_wt;have hws:=aB.ws_wts lits;have hbw:∀ b∈bs,b.scopes.length<=2 ^ 36:=fun b hb=>by
  have h:=zjL (W:=aH.wt) hb;have e:b.wt=b.name.size+b.scopes.length:=rfl;omega
 have hrw:∀ r∈rules,r.pattern.w<=2 ^ 36/\r.template.w<=2 ^ 36:=fun r hr=>by
  have h:=zjL (W:=aI.wt) hr;have e:r.wt=r.pattern.wt+r.template.wt:=rfl;have a:=r.pattern.w_wt;have b:=r.template.w_wt;omega
 have hmw:=aI.mws_wt rules;have hmb:=aH.mws_wt bs;have hR:zmI rules:=⟨hr,fun r h=>(hrw r h).1,fun r h=>(hrw r h).2⟩
 have t1:=znD bs (by omega) hbw;have t2:=znB rules (by omega) hrw;have t3:=znC lits (by omega);have t4:=zdM f (by omega);have ti:=zlv bs rules lits f hb (by omega) hR hl hf;have ts:=zlo bs rules lits f hb (by omega) hR hl hf (by omega) (by omega) (by omega);have eh:=zh2 (zaX bs rules lits f).1;have hw:=zrk bs rules lits f;refine ⟨true,?_,rfl⟩;obtain ⟨v0,q0,k1,k2,k3⟩:=zsx bs 1 (by omega) (by omega);obtain ⟨v1,q1,m1,m2,m3,m4⟩:=zsw rules v0 (by omega) (by omega);obtain ⟨v2,q2,n1,n2,n3,n4⟩:=zjC lits v1 (by omega) (by omega);obtain ⟨v3,q3,q4,o1,o2,o3,o4⟩:=zrJ f v2 (by omega) (by omega);obtain ⟨v,p1,p2,a1,a2,a3,a4⟩:=zrJ (zaX bs rules lits f).1 1 (by omega) (by omega);refine Tr.bind t1 (Tr.bind t2 (Tr.bind t3 (Tr.bind t4 (Tr.bind ts (Tr.bind t1 (Tr.bind t2 (Tr.bind t3 (Tr.bind t4 (Tr.bind ti (Tr.bind eh (Tr.ff rfl ?_)))))))))));refine Tr.eq (fun m=>by rw [fE]) ?_;refine Tr.step (fun m=>by rw [dR]) ?_;refine Tr.ff rfl ?_;refine Tr.bind t1 (Tr.bind (zlB bs) (Tr.ff rfl (Tr.bind t2 (Tr.bind (zlz rules) (Tr.ff rfl (Tr.bind t3 (Tr.bind (zlA lits) (Tr.ff rfl (Tr.bind t4 (Tr.bind (zh2 f) (Tr.ff rfl ?_)))))))))));refine Tr.bind k1 (Tr.bind m1 (Tr.bind n1 (Tr.bind o1 (Tr.ff (nO (by show 0<=v3;omega)) (Tr.bind eh (Tr.ff rfl ?_))))));refine Tr.eq (fun m=>by rw [fE]) ?_;refine Tr.step (fun m=>by rw [cF]) ?_;refine Tr.ff rfl ?_;refine Tr.bind a1 (Tr.bind (a4 _ _ _) (Tr.ff (nO (by omega)) (Tr.ff (fE v) ?_)));refine Tr.bind t1 (Tr.bind t2 (Tr.bind t3 (Tr.bind t4 (Tr.bind ti (Tr.bind eh (Tr.ff rfl ?_))))));refine Tr.eq (fun m=>by rw [fE]) ?_;refine Tr.step (fun m=>by rw [dQ]) ?_;refine Tr.ff rfl ?_;exact Tr.bind (a4 _ _ _) (Tr.ff (nO (by omega)) (Tr.ff (fE v) Tr.val))
end Go.Abs
end
