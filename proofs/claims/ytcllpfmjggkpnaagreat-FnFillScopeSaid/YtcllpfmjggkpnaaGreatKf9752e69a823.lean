/- A part of the proof: what the functions that the law calls answer, as pure values. -/
import Derived.Test.YtcllpfmjggkpnaaGreatK901cfc26645b
import Derived.Test.YtcllpfmjggkpnaaGreatK21d2a896a087
import Derived.Test.YtcllpfmjggkpnaaGreatK9007fc86218d
set_option linter.unusedSimpArgs false
set_option linter.unusedVariables false
section
set_option linter.unusedVariables false
set_option linter.unusedSimpArgs false
namespace Go.Abs
theorem uses_n (nm:Form) (hnm:nm.kind=1):∀ (n:Nat) (f:Form),f.w≤n→Tr (fun m=>zdG m f nm) (Form.part nm f):=by
 intro n
 induction n with
 | zero=>intro f h;have:=f.w_kids;omega
 | succ n ih =>
   intro f hn
   have hw:=f.w_kids
   rw [Form.part_eq]
   have kids:Tr (fun m=>zcX m f nm) (Form.parts nm f.kids):=by
    refine Tr.step (fun m=>by rw [zcX]) ?_
    have key:=zak f.kids (fun k zs=>Tr (fun m=>zcj m f nm (k:Int)) (Form.parts nm zs)) ?_ ?_ 0 (Nat.zero_le _)
    ·exact key
    ·exact Tr.step (fun m=>by rw [zcj,z6,cond_false,Form.parts]) Tr.val
    ·intro k x zs hk hx hd ihk
     have hm:=Form.ws_mem (List.mem_of_getElem? hx)
     refine Tr.step (fun m=>by rw [zcj,ltN hk,cond_true,zE hx,Option.bind_some,zbp]) (Tr.bind (ih x (by omega)) ?_)
     rw [Form.parts]
     cases Form.part nm x with
     | true=>exact Tr.tt rfl Tr.val
     | false=>exact Tr.ff rfl ihk
   refine Tr.step (fun m=>by rw [zdG]) ?_
   by_cases h1:f.kind=1
   ·refine Tr.tt (decide_eq_true h1) (Tr.bind (zcL f nm) ?_)
    cases same f nm with
    | true=>exact Tr.tt rfl Tr.val
    | false=>exact Tr.ff rfl kids
   ·have hs:same f nm=false:=same_ne (fun e=>h1 (e ▸ hnm))
    rw [hs,Bool.false_or]
    exact Tr.ff (decide_eq_false h1) kids
theorem hit_kind {h:Hit} (hk:h.isOk=true):h.name.kind=1:=by
 have hn:=(zhh hk).1
 unfold isNm at hn
 rw [Bool.and_eq_true,decide_eq_true_eq] at hn
 exact hn.1
theorem deepB_pos {x:Form} {h:Hit} (hk:h.isOk=true):zdx x h=(decide (0 < h.depth)&&Form.part h.name x):=by
 have:=(zhh hk).2.1.1
 unfold zdx
 by_cases h0:h.depth=0
 ·rw [decide_eq_true h0,decide_eq_false (by omega)];simp
 ·rw [decide_eq_false h0,decide_eq_true (by omega)];simp
section
variable {hs:List Hit}
theorem count_tr (x:Form) (hok:∀ h∈hs,h.isOk=true):Tr (fun m=>zfl m x hs) (match cntR x (-1) hs with
  | none=>-1
  | some N=>N):=by
 refine Tr.eq (fun m=>by unfold zfl;rfl) ?_
 have key:=zak hs (fun j zs=>∀ n:Int,cntR x n zs=cntR x (-1) hs→Tr (fun m=>zbG m x hs (j:Int) n) (match cntR x (-1) hs with
  | none=>-1
  | some N=>N)) ?_ ?_ 0 (Nat.zero_le _) (-1) (by rw [List.drop_zero])
 ·exact key
 ·intro n h2
  rw [cntR] at h2
  rw [← h2]
  exact Tr.step (fun m=>by rw [zbG,z6,cond_false]) Tr.val
 ·intro j h zs hj hx hd ih n h2
  have hm:=List.mem_of_getElem? hx
  rw [cntR] at h2
  have j2:Tr (fun m=>zb2 m x hs (j:Int) n (!zdx x h)) (match cntR x (-1) hs with
   | none=>-1
   | some N=>N):=by
   cases hb:zdx x h with
   | false =>
     rw [hb,cond_false] at h2
     exact Tr.step (fun m=>by rw [zb2,Bool.not_false,cond_true,zbp]) (ih n h2)
   | true =>
     rw [hb,cond_true] at h2
     have j3:(decide (0≤n)&&decide (n≠(h.many.length:Int)))=false→Tr (fun m=>zcz m x hs (j:Int)) (match cntR x (-1) hs with
      | none=>-1
      | some N=>N):=fun hc=>by
      rw [hc,cond_false] at h2
      exact Tr.step (fun m=>by rw [zcz,zE hx,Option.bind_some,zbp]) (ih _ h2)
     refine Tr.step (fun m=>by rw [zb2,Bool.not_true,cond_false]) ?_
     by_cases hn:0≤n
     ·refine Tr.tt (decide_eq_true hn) (Tr.eq (fun m=>by rw [zE hx,Option.bind_some]) ?_)
      by_cases hne:n=(h.many.length:Int)
      ·have hcc:decide (n≠(h.many.length:Int))=false:=decide_eq_false (fun hh=>hh hne)
       exact Tr.ff hcc (j3 (by rw [hcc,Bool.and_false]))
      ·rw [decide_eq_true hn,decide_eq_true (by exact hne),Bool.and_self,cond_true] at h2
       rw [← h2]
       exact Tr.tt (decide_eq_true (by exact hne)) Tr.val
     ·exact Tr.ff (decide_eq_false hn) (j3 (by rw [decide_eq_false hn,Bool.false_and]))
  refine Tr.step (fun m=>by rw [zbG,ltN hj,cond_true,zE hx,Option.bind_some]) ?_
  by_cases h0:h.depth=0
  ·have:zdx x h=false:=by unfold zdx;rw [decide_eq_true h0];simp
   rw [this] at j2
   exact Tr.tt (decide_eq_true h0) j2
  ·have:zdx x h=Form.part h.name x:=by unfold zdx;rw [decide_eq_false h0];simp
   rw [this] at j2
   exact Tr.ff (decide_eq_false h0) (Tr.eq (fun m=>by rw [Option.bind_some]) (Tr.bind (uses_n h.name (hit_kind (hok h hm)) _ x (Nat.le_refl _)) j2))
theorem nth_tr (x:Form) (n:Nat) (hok:∀ h∈hs,h.isOk=true) (hsl:hs.length≤20) (hlen:∀ h∈hs,zdx x h=true→n < h.many.length):Tr (fun m=>zfQ m x hs (n:Int)) (nthR x n hs):=by
 refine Tr.eq (fun m=>by unfold zfQ;rfl) ?_
 have key:=zak hs (fun j zs=>∀ g:List Hit,g.length=j→g++nthR x n zs=nthR x n hs→Tr (fun m=>zca m x hs (n:Int) g (j:Int)) (nthR x n hs)) ?_ ?_ 0 (Nat.zero_le _) [] rfl (by rw [List.drop_zero,List.nil_append])
 ·exact key
 ·intro g hg he
  have:nthR x n []=[]:=rfl
  rw [this,List.append_nil] at he
  rw [← he]
  exact Tr.step (fun m=>by rw [zca,z6,cond_false]) Tr.val
 ·intro j h zs hj hx hd ih g hg he
  have hm:=List.mem_of_getElem? hx
  have he':(g++[bif zdx x h then h.many.getD n hit0 else h])++nthR x n zs=nthR x n hs:=by rw [← he,List.append_assoc];rfl
  have j2:Tr (fun m=>zcM m x hs (n:Int) g (j:Int) h (zdx x h)) (nthR x n hs):=by
   cases hb:zdx x h with
   | true =>
     rw [hb,cond_true] at he'
     have hn:=hlen h hm hb
     have hmn:h.many[n]?=some (h.many.getD n hit0):=by rw [List.getD_eq_getElem?_getD,List.getElem?_eq_getElem hn];rfl
     refine Tr.step (fun m=>by rw [zcM,cond_true,zE hmn,Option.bind_some]) (Tr.chk (decide_eq_true (by simp;omega)) ?_)
     exact Tr.eq (fun m=>by rw [zbp]) (ih _ (by simp [hg]) he')
   | false =>
     rw [hb,cond_false] at he'
     refine Tr.step (fun m=>by rw [zcM,cond_false]) (Tr.chk (decide_eq_true (by simp;omega)) ?_)
     exact Tr.eq (fun m=>by rw [zbp]) (ih _ (by simp [hg]) he')
  refine Tr.step (fun m=>by rw [zca,ltN hj,cond_true,zE hx,Option.bind_some]) ?_
  rw [deepB_pos (hok h hm)] at j2
  cases h0:decide (0 < h.depth) with
  | true =>
    rw [h0,Bool.true_and] at j2
    exact Tr.tt rfl (Tr.bind (uses_n h.name (hit_kind (hok h hm)) _ x (Nat.le_refl _)) j2)
  | false =>
    rw [h0,Bool.false_and] at j2
    exact Tr.ff rfl j2
end
section
variable {f:Form} {hs:List Hit}
def resS (f:Form) (acc:List Form):Option (List Form)→Form × Bool
 | some ys=>bif decide (Form.cnts (acc++ys)≤400) then (Form.mk f.kind f.name f.n f.scopes (acc++ys),true) else (f,false)
 | none=>(f,false)
theorem resS_some {acc ys:List Form}:resS f acc (some ys)=bif decide (Form.cnts (acc++ys)≤400) then (Form.mk f.kind f.name f.n f.scopes (acc++ys),true) else (f,false):=rfl
theorem resS_none {acc:List Form} {o:Option (List Form)}:resS f acc (fapp none o)=(f,false):=by cases o<;>rfl
theorem resS_app {acc a:List Form} {o:Option (List Form)}:resS f acc (fapp (some a) o)=resS f (acc++a) o:=by
 cases o with
 | none=>rfl
 | some b=>unfold resS fapp;simp only [List.append_assoc]
theorem resS_big {acc:List Form} {o:Option (List Form)} (h:400 < Form.cnts acc):resS f acc o=(f,false):=by
 cases o with
 | none=>rfl
 | some ys =>
   have h2:¬ Form.cnts (acc++ys)≤400:=by rw [zg6];omega
   rw [resS_some,decide_eq_false h2];rfl
theorem sfill_l5_tr {l:List (Form × Int)} {vv:Nat} (k:Nat) (x:Form) (hx:f.kids[k]?=some x) (hk:k < 2 ^ 40) (row:Bool) (D:Nat→List Hit) (N:Nat) (hN:N≤400) (hw:x.w≤2 ^ 30)
  (hD:∀ i,i < N→bif row then Tr (fun m=>zfQ m x hs (i:Int)) (D i) else D i=hs)
  (hb:∀ i,i < N→Tr (fun m=>zda m x (D i)) (match x.fl (D i) with
   | some y=>(y,true)
   | none=>(x,false))) (hF:∀ i,i < N→zgC l vv (D i) x) {o:Option (List Form)}
  (hK:∀ acc,Form.cnts acc≤400→Tr (fun m=>zbC m f hs ((k+1:Nat):Int) (Form.cnts acc:Int) acc) (resS f acc o)) :
  ∀ (j n:Nat),n+j=N→∀ acc,Form.cnts acc≤400→Tr (fun m=>zcl m f hs (k:Int) row (N:Int) (Form.cnts acc:Int) (n:Int) acc) (resS f acc (fapp (rowF (fun i=>x.fl (D i)) n j) o)):=by
 intro j
 induction j with
 | zero =>
   intro n hn acc ha
   have:n=N:=by omega
   subst this
   rw [rowF,resS_app,List.append_nil]
   exact Tr.step (fun m=>by rw [zcl,z6,cond_false,zaG (by omega),zbp]) (hK acc ha)
 | succ j ih =>
   intro n hn acc ha
   have hnN:n < N:=by omega
   have hcl:=cnts_len acc
   have j6:Tr (fun m=>zcY m f hs (k:Int) row (N:Int) (Form.cnts acc:Int) (n:Int) acc (D n)) (resS f acc (fapp (rowF (fun i=>x.fl (D i)) n (j+1)) o)):=by
    have hbn:=hb n hnN
    refine Tr.step (fun m=>by rw [zcY,zE hx,Option.bind_some]) (Tr.bind hbn ?_)
    cases hxf:x.fl (D n) with
    | none =>
      have e:rowF (fun i=>x.fl (D i)) n (j+1)=none:=by rw [rowF];simp only [hxf]
      rw [e,resS_none]
      dsimp only
      refine Tr.bind (l1Count_n _ x (Nat.le_refl _) (by omega)) ?_
      exact Tr.eq (fun m=>by rw [Bool.not_false,cond_true]) (Tr.step (fun m=>by rw [zcm,cond_true]) Tr.val)
    | some y =>
      have hFy:=fl_ok (hF n hnN) hxf
      have hyw:=hFy.w
      have hyc:=hFy.cnt
      have e:resS f acc (fapp (rowF (fun i=>x.fl (D i)) n (j+1)) o)=resS f (acc++[y]) (fapp (rowF (fun i=>x.fl (D i)) (n+1) j) o):=by
       rw [rowF]
       simp only [hxf]
       cases rowF (fun i=>x.fl (D i)) (n+1) j with
       | none=>simp only [resS_none]
       | some ys=>simp only [resS_app,List.append_assoc,List.singleton_append]
      rw [e]
      dsimp only
      have hcs:Form.cnts (acc++[y])=Form.cnts acc+y.cnt:=by rw [zg6,Form.cnts,Form.cnts,Nat.add_zero]
      have e1:(Form.cnts acc:Int)+(y.cnt:Int)=((Form.cnts (acc++[y]):Nat):Int):=by rw [hcs];simp
      refine Tr.bind (l1Count_n _ y (Nat.le_refl _) (by omega)) (Tr.eq (fun m=>by rw [Bool.not_true,cond_false,zaG (by omega),e1]) ?_)
      by_cases hc:Form.cnts (acc++[y])≤400
      ·refine Tr.step (fun m=>by rw [zcm,decide_eq_false (show ¬ (400:Int) < ((Form.cnts (acc++[y]):Nat):Int) by omega),cond_false]) ?_
       refine Tr.chk (decide_eq_true (by simp;omega)) ?_
       exact Tr.eq (fun m=>by rw [zaG (by omega),zaG (by omega),e1,zbp]) (ih (n+1) (by omega) (acc++[y]) hc)
      ·rw [resS_big (by omega)]
       exact Tr.step (fun m=>by rw [zcm,decide_eq_true (show (400:Int) < ((Form.cnts (acc++[y]):Nat):Int) by omega),cond_true]) Tr.val
   have hDn:=hD n hnN
   refine Tr.step (fun m=>by rw [zcl,ltN hnN,cond_true]) ?_
   cases row with
   | true=>exact Tr.tt rfl (Tr.eq (fun m=>by rw [zE hx,Option.bind_some]) (Tr.bind hDn j6))
   | false =>
     rw [cond_false] at hDn
     rw [hDn] at j6
     exact Tr.ff rfl j6
theorem sfill_l2_tr {l:List (Form × Int)} {v:Nat} (hF:zgC l v hs f) (hw:f.w≤2 ^ 30) (ih:∀ x∈f.kids,∀ v' hs',zgC l v' hs' x→Tr (fun m=>zda m x hs') (match x.fl hs' with
  | some y=>(y,true)
  | none=>(x,false))):∀ (rest:List Form) (k:Nat) (acc:List Form),f.kids.drop k=rest→k≤f.kids.length→Form.cnts acc≤400 →
  Tr (fun m=>zbC m f hs (k:Int) (Form.cnts acc:Int) acc) (resS f acc (Form.fls rest hs))
 | [],k,acc,hd,hk,ha=>by
   have:k=f.kids.length:=by have:=congrArg List.length hd;rw [List.length_drop] at this;simp at this;omega
   subst this
   rw [Form.fls,resS_some,List.append_nil,decide_eq_true ha,cond_true]
   exact Tr.step (fun m=>by rw [zbC,z6,cond_false,List.nil_append]) Tr.val
 | x::xs,k,acc,hd,hk,ha=>by
   obtain ⟨hx,hd2,hlt⟩:=drop_cons' hd
   have hm:=List.mem_of_getElem? hx
   have hfw:=f.w_kids
   have hxw:=Form.ws_mem hm
   have hkl:=Form.ws_len f.kids
   refine Tr.step (fun m=>by rw [zbC,ltN hlt,cond_true,zE hx,Option.bind_some]) (Tr.bind (zeC x) ?_)
   rw [Form.fls_eq]
   have hgo:=fun acc=>sfill_l2_tr hF hw ih xs (k+1) acc hd2 hlt
   cases hdx:zK x with
   | true =>
     rw [cond_true]
     exact Tr.tt rfl (Tr.eq (fun m=>by rw [zbp]) (hgo acc ha))
   | false =>
     rw [cond_false]
     refine Tr.ff rfl ?_
     have one:zbM xs=false→Tr (fun m=>zco m f hs (k:Int) (Form.cnts acc:Int) acc false) (resS f acc (fapp (match x.fl hs with
       | none=>none
       | some y=>some [y]) (Form.fls xs hs))):=by
      intro hn
      have hFx:=hF.kid hx hdx (by rw [hd2];exact hn)
      refine Tr.step (fun m=>by rw [zco,cond_false]) (Tr.step (fun m=>by rw [zcn,decide_eq_false (by omega),cond_false]) ?_)
      have:=sfill_l5_tr (f:=f) (hs:=hs) k x hx (by omega) false (fun _=>hs) 1 (by omega) (by omega) (fun i _=>rfl) (fun i _=>ih x hm v hs hFx) (fun i _=>hFx) (o:=Form.fls xs hs) (fun acc' ha'=>hgo acc' ha') 1 0 rfl acc ha
      have e:rowF (fun _:Nat=>x.fl hs) 0 1=(match x.fl hs with
       | none=>none
       | some y=>some [y]):=by
       cases hxf:x.fl hs with
       | none=>simp only [rowF,hxf]
       | some y=>simp only [rowF,hxf]
      rw [e] at this
      exact this
     rcases next_get hd with ⟨hz,hl⟩ | ⟨y,ys,hz,hy,hl⟩
     ·subst hz
      rw [show zbM ([]:List Form)=false from rfl,cond_false]
      exact Tr.ff (decide_eq_false (by omega)) (one rfl)
     ·refine Tr.tt (decide_eq_true (by omega)) (Tr.eq (fun m=>by rw [zbp,zE hy,Option.bind_some]) (Tr.bind (zeC y) ?_))
      have hnx:zbM xs=zK y:=by rw [hz];rfl
      cases hdy:zK y with
      | false =>
        rw [hnx,hdy,cond_false]
        exact one (by rw [hnx,hdy])
      | true =>
        rw [hnx,hdy,cond_true]
        obtain ⟨r1,r2⟩:=hF.row hx hdx (by rw [hd2,hnx,hdy])
        obtain ⟨hall,hsl⟩:=zhi hF.hv
        refine Tr.step (fun m=>by rw [zco,cond_true,zE hx,Option.bind_some]) (Tr.bind (count_tr x hall) ?_)
        cases hc:cntR x (-1) hs with
        | none =>
          rw [resS_none]
          exact Tr.step (fun m=>by rw [zcn];rfl) Tr.val
        | some N =>
          obtain ⟨c0,c1,c2⟩:=cntR_lt hF.hv r1 hc
          have hFi:∀ i,i < N.toNat→zgC l (v+1) (nthR x i hs) x:=fun i hi=>r2 i (fun h hh hdp=>by rw [c2 h hh hdp];exact hi)
          refine Tr.step (fun m=>by rw [zcn,decide_eq_false (show ¬ N < 0 by omega),cond_false]) ?_
          have:=sfill_l5_tr (f:=f) (hs:=hs) k x hx (by omega) true (fun i=>nthR x i hs) N.toNat (by omega) (by omega) (fun i hi=>nth_tr x i hall hsl (fun h hh hdp=>by rw [c2 h hh hdp];exact hi)) (fun i hi=>ih x hm (v+1) _ (hFi i hi)) hFi (o:=Form.fls xs hs) (fun acc' ha'=>hgo acc' ha') N.toNat 0 (by omega) acc ha
          rw [Int.toNat_of_nonneg c0] at this
          exact this
end
theorem specFill_n (l:List (Form × Int)):∀ (n:Nat) (f:Form),f.w≤n→f.w≤2 ^ 30→∀ v hs,zgC l v hs f→Tr (fun m=>zda m f hs) (match f.fl hs with
  | some y=>(y,true)
  | none=>(f,false)):=by
 intro n
 induction n with
 | zero=>intro f h;have:=f.w_kids;omega
 | succ n ih =>
   intro f hn hw v hs hF
   have hfw:=f.w_kids
   rw [Form.fl_eq]
   obtain ⟨d,hok⟩:=hF.ok
   have rest:Tr (fun m=>zcp m f hs (-1)) (match (match Form.fls f.kids hs with
     | none=>none
     | some ys=>bif decide (Form.cnts ys≤400) then some (Form.mk f.kind f.name f.n f.scopes ys) else none) with
    | some y=>(y,true)
    | none=>(f,false)):=by
    refine Tr.step (fun m=>by rw [zcp,decide_eq_false (by omega),cond_false]) ?_
    refine Tr.chk (decide_eq_true (by simp;omega)) ?_
    have:=sfill_l2_tr hF hw (fun x hx v' hs' hF'=>ih x (by have:=Form.ws_mem hx;omega) (by have:=Form.ws_mem hx;omega) v' hs' hF') f.kids 0 [] (by rw [List.drop_zero]) (Nat.zero_le _) (by rw [Form.cnts];omega)
    cases hf:Form.fls f.kids hs with
    | none=>rw [hf] at this;exact this
    | some ys =>
      rw [hf,resS_some,List.nil_append] at this
      simp only
      cases hc:decide (Form.cnts ys≤400) with
      | true=>rw [hc,cond_true] at this;rw [cond_true];exact this
      | false=>rw [hc,cond_false] at this;rw [cond_false];exact this
   refine Tr.step (fun m=>by rw [zda]) ?_
   by_cases h1:f.kind=1
   ·rw [decide_eq_true h1,cond_true]
    refine Tr.tt rfl (Tr.bind (l4Find_tr hs f) ?_)
    unfold findO
    rcases hF.leaf with hl | ⟨i,h,hl,hi,h0,hv⟩
    ·rw [hl,decide_eq_false (by omega),cond_false]
     have hk:f.kids=[]:=(zft hok).1 (by omega)
     have e:Form.mk f.kind f.name f.n f.scopes []=f:=by
      obtain ⟨a,b,c,dd,ee⟩:=f
      replace hk:ee=[]:=hk
      subst hk;rfl
     have e3:decide (Form.cnts []≤400)=true:=decide_eq_true (by rw [Form.cnts];omega)
     have e2:(match Form.fls f.kids hs with
      | none=>none
      | some ys=>bif decide (Form.cnts ys≤400) then some (Form.mk f.kind f.name f.n f.scopes ys) else none)=some f:=by
      rw [hk,Form.fls]
      simp only
      rw [e3,cond_true,e]
     rw [e2] at rest
     exact rest
    ·rw [hl,decide_eq_true (by omega),cond_true,Int.toNat_natCast,List.getD_eq_getElem?_getD,hi,Option.getD_some]
     have:=valid_w hv
     refine Tr.step (fun m=>by rw [zcp,decide_eq_true (by omega),cond_true,zE hi,Option.bind_some]) (Tr.bind (zfr _ h.one (Nat.le_refl _) (by omega)) ?_)
     refine Tr.eq (fun m=>by rw [Option.bind_some,h0]) ?_
     exact Tr.val
   ·rw [decide_eq_false h1,cond_false]
    exact Tr.ff rfl rest
end Go.Abs
end
section
set_option linter.unusedVariables false
set_option linter.unusedSimpArgs false
namespace Go.Abs
noncomputable def fillV (o:Option Form):Form × Bool:=match o with
 | some y=>bif y.valid then (y,true) else (zbQ,false)
 | none=>(zbQ,false)
noncomputable def fillT (t:Form) (hs:List Hit):Form × Bool:=bif hvOk hs&&zge t (nd hs) then fillV (t.fl hs) else (zbQ,false)
theorem zgu {t:Form} {l:List (Form × Int)} (h:zge t l=true):t.valid=true∧zK t=false∧t.dotsOk false=true∧t.rws l 0=true:=by
 unfold zge at h
 simp only [Bool.and_eq_true,Bool.not_eq_true'] at h
 exact ⟨h.1,h.2.1,h.2.2.1,h.2.2.2⟩
theorem fillS_of {t:Form} {hs:List Hit} (hv:hvOk hs=true) (ht:zge t (nd hs)=true):zgC (nd hs) 0 hs t:=by
 obtain ⟨h1,h2,h3,h4⟩:=zgu ht
 unfold Form.valid at h1
 rw [Bool.and_eq_true] at h1
 exact ⟨hv,h4,⟨40,h1.1⟩,fun g _ _=>by simp⟩
theorem zfN (t:Form) (hs:List Hit) (hf:t.fit) (hb:t.w≤2 ^ 36) (hl:Hit.fits hs) (hlb:Hit.ws hs≤2 ^ 36) (hfo:∀ y,t.fl hs=some y→y.fit):Tr (fun m=>zcF m t hs) (fillT t hs):=by
 refine Tr.eq (fun m=>by unfold zcF;rfl) (Tr.bind (implTemplateValid_tr t hs hf hb hl hlb) ?_)
 unfold fillT
 cases hg:(hvOk hs&&zge t (nd hs)) with
 | false=>exact Tr.tt rfl Tr.val
 | true =>
 rw [Bool.and_eq_true] at hg
 have hS:=fillS_of hg.1 hg.2
 have hw:=valid_w (zgu hg.2).1
 refine Tr.ff rfl (Tr.bind (implFill_n (nd hs) _ t (Nat.le_refl _) (by omega) 0 hs hS) ?_)
 rw [cond_true]
 unfold fillV
 cases hfl:t.fl hs with
 | none=>exact Tr.tt rfl Tr.val
 | some y =>
   have hyw:=(fl_ok hS hfl).w
   dsimp only
   refine Tr.eq (fun m=>by rw [Bool.not_true,cond_false]) (Tr.bind (v:=bif y.valid then (y,true) else (zbQ,false)) ?_ ?_)
   ·refine Tr.eq (fun m=>by unfold zff;rfl) (Tr.bind (zdF y (hfo y hfl)) ?_)
    cases y.valid with
    | false=>exact Tr.tt rfl Tr.val
    | true=>exact Tr.ff rfl (Tr.bind (zhS y (by omega)) Tr.val)
   ·cases y.valid<;>exact Tr.val
theorem specFillTemplate_tr (t:Form) (hs:List Hit) (hf:t.fit) (hb:t.w≤2 ^ 36) (hl:Hit.fits hs) (hlb:Hit.ws hs≤2 ^ 36) (hfo:∀ y,t.fl hs=some y→y.fit):Tr (fun m=>zdt m t hs) (fillT t hs):=by
 refine Tr.eq (fun m=>by unfold zdt;rfl) (Tr.bind (ownForm_tr t hb) (Tr.bind (specTemplateValid_tr t hs hf hb hl hlb) ?_))
 unfold fillT
 cases hg:(hvOk hs&&zge t (nd hs)) with
 | false=>exact Tr.tt rfl Tr.val
 | true =>
 rw [Bool.and_eq_true] at hg
 have hS:=fillS_of hg.1 hg.2
 have hw:=valid_w (zgu hg.2).1
 refine Tr.ff rfl (Tr.bind (specFill_n (nd hs) _ t (Nat.le_refl _) (by omega) 0 hs hS) ?_)
 rw [cond_true]
 unfold fillV
 cases hfl:t.fl hs with
 | none=>exact Tr.tt rfl Tr.val
 | some y =>
   have hyw:=(fl_ok hS hfl).w
   dsimp only
   refine Tr.eq (fun m=>by rw [Bool.not_true,cond_false]) (Tr.bind (zbR y (hfo y hfl) (by omega)) ?_)
   cases y.valid with
   | false=>exact Tr.eq (fun m=>by rw [Bool.not_false,cond_true];rfl) Tr.val
   | true=>exact Tr.eq (fun m=>by rw [Bool.not_true,cond_false];rfl) Tr.val
theorem rowF_all {P:Form→Prop} {D:Nat→Option Form} (hD:∀ i y,D i=some y→P y):∀ {k n:Nat} {r:List Form},rowF D n k=some r→∀ y∈r,P y:=fun h y hy=>by
 obtain ⟨i,_,_,hi⟩:=rowF_mem h y hy
 exact hD i y hi
theorem nthR_fit {x:Form} {n:Nat}:∀ {hs:List Hit},Hit.fits hs→Hit.fits (nthR x n hs)
 | [],h=>h
 | h::hs,hf=>by
   rw [Hit.fits] at hf
   show Hit.fits ((bif zdx x h then h.many.getD n hit0 else h)::nthR x n hs)
   rw [Hit.fits]
   refine ⟨?_,nthR_fit hf.2⟩
   cases zdx x h with
   | false=>exact hf.1
   | true =>
     rw [cond_true]
     by_cases hn:n < h.many.length
     ·have hm:=many_mem hn
      have:=hf.1
      obtain ⟨a,b,c,d⟩:=h
      rw [Hit.fit] at this
      exact Hit.fits_mem this.2.2.2 hm
     ·rw [List.getD_eq_getElem?_getD,List.getElem?_eq_none (by omega)];exact hit0_fit
theorem hit_one_fit {h:Hit} (hf:h.fit):h.one.fit:=by
 obtain ⟨a,b,c,d⟩:=h
 rw [Hit.fit] at hf
 exact hf.2.1
theorem fl_fit_n:∀ (n:Nat) (f:Form),f.w≤n→f.fit→∀ hs,Hit.fits hs→∀ y,f.fl hs=some y→y.fit:=by
 intro n
 induction n with
 | zero=>intro f h;have:=f.w_kids;omega
 | succ n ih =>
   intro f hn hf hs hl y hy
   have hw:=f.w_kids
   rw [Form.fl_eq] at hy
   by_cases h1:f.kind=1
   ·rw [decide_eq_true h1,cond_true] at hy
    cases hy
    unfold findO
    cases hd:decide (0≤hAt hs f) with
    | false=>exact hf
    | true =>
      rw [cond_true]
      rcases fnd_at (D:=fun y:Hit=>same y.name f) (l:=hs) (k:=0) with ⟨h2,_⟩ | ⟨i,h,h2,h3,_,_⟩
      ·have:=of_decide_eq_true hd
       unfold hAt at this;omega
      ·unfold hAt
       rw [h2,Nat.zero_add,Int.toNat_natCast,List.getD_eq_getElem?_getD,h3,Option.getD_some]
       exact hit_one_fit (Hit.fits_mem hl (List.mem_of_getElem? h3))
   ·rw [decide_eq_false h1,cond_false] at hy
    cases hfs:Form.fls f.kids hs with
    | none=>simp [hfs] at hy
    | some ys =>
      rw [hfs] at hy
      simp only at hy
      cases hc:decide (Form.cnts ys≤400) with
      | false=>rw [hc] at hy;cases hy
      | true =>
        rw [hc,cond_true] at hy
        cases hy
        have key:∀ (zs:List Form),(∀ x∈zs,x∈f.kids)→∀ r,Form.fls zs hs=some r→∀ y∈r,y.fit:=by
         intro zs
         induction zs with
         | nil=>intro _ r hr y hy;rw [Form.fls] at hr;cases hr;cases hy
         | cons x xs ihz =>
           intro hm r hr y hy
           have hxm:=hm x (by simp)
           have hxw:=Form.ws_mem hxm
           have hxf:=Form.fits_mem hf.parts.2.2.2 hxm
           rw [Form.fls_eq] at hr
           cases hdx:zK x with
           | true=>rw [hdx,cond_true] at hr;exact ihz (fun z hz=>hm z (by simp [hz])) r hr y hy
           | false =>
             rw [hdx,cond_false] at hr
             obtain ⟨a,b,ha,hb,rfl⟩:=fapp_some hr
             rcases List.mem_append.1 hy with hy | hy
             ·cases hnx:zbM xs with
              | false =>
                rw [hnx,cond_false] at ha
                cases hxfl:x.fl hs with
                | none=>rw [hxfl] at ha;cases ha
                | some z =>
                  rw [hxfl] at ha;cases ha
                  rw [List.mem_singleton] at hy;subst hy
                  exact ih x (by omega) hxf hs hl _ hxfl
              | true =>
                rw [hnx,cond_true] at ha
                cases hcn:cntR x (-1) hs with
                | none=>rw [hcn] at ha;cases ha
                | some N =>
                  rw [hcn] at ha
                  exact rowF_all (fun i y hiy=>ih x (by omega) hxf _ (nthR_fit hl) y hiy) ha y hy
             ·exact ihz (fun z hz=>hm z (by simp [hz])) b hb y hy
        have hcl:=cnts_len ys
        have hc:=of_decide_eq_true hc
        have hp:=hf.parts
        rw [Form.fit]
        exact ⟨hp.1,hp.2.1,by omega,Form.fits_of_mem (key f.kids (fun x hx=>hx) ys hfs)⟩
theorem fl_fit {f y:Form} {hs:List Hit} (hf:f.fit) (hl:Hit.fits hs) (h:f.fl hs=some y):y.fit:=fl_fit_n _ f (Nat.le_refl _) hf hs hl y h
theorem kD_prev:∀ {zs:List Form} {pd sn:Bool} {i:Nat} {x:Form},Form.kD false pd sn zs=true→zs[i]?=some x→zK x=true→(i=0∧pd=false)∨∃ j y,i=j+1∧zs[j]?=some y∧zK y=false
 | z::zs,pd,sn,0,x,h,hx,hd=>by
   simp at hx;subst hx
   rw [Form.kD,hd,cond_true,Bool.and_eq_true,Bool.and_eq_true,Bool.not_eq_true'] at h
   exact .inl ⟨rfl,h.1.1⟩
 | z::zs,pd,sn,i+1,x,h,hx,hd=>by
   rw [Form.kD,Bool.and_eq_true] at h
   rcases kD_prev (zs:=zs) (i:=i) h.2 (by simpa using hx) hd with ⟨rfl,h2⟩ | ⟨j,y,rfl,hy,hyd⟩
   ·exact .inr ⟨0,z,rfl,rfl,h2⟩
   ·exact .inr ⟨j+1,y,rfl,by simpa using hy,hyd⟩
theorem kD_kid:∀ {zs:List Form} {pd sn:Bool} {x:Form},Form.kD false pd sn zs=true→x∈zs→zK x=false→x.dotsOk false=true
 | z::zs,pd,sn,x,h,hx,hd=>by
   rw [Form.kD,Bool.and_eq_true] at h
   rcases List.mem_cons.1 hx with rfl | hx
   ·have:=h.1;rw [hd,cond_false] at this;exact this
   ·exact kD_kid h.2 hx hd
theorem zgC.plain {l:List (Form × Int)} {v:Nat} {hs:List Hit} {f:Form} (hF:zgC l v hs f) (hd:f.dotsOk false=true) (hno:∀ h∈hs,Form.part h.name f=false):∀ x∈f.kids,zK x=false:=by
 intro x hx
 rw [Bool.eq_false_iff]
 intro hdx
 obtain ⟨i,hi⟩:=List.getElem?_of_mem hx
 rw [Form.dotsOk_eq] at hd
 rcases kD_prev hd hi hdx with ⟨_,h⟩ | ⟨j,y,rfl,hy,hyd⟩
 ·cases h
 ·have hnx:zbM (f.kids.drop (j+1))=true:=by
   rw [drop_get hi];exact hdx
  obtain ⟨⟨h,hm,hdp⟩,_⟩:=hF.row hy hyd hnx
  unfold zdx at hdp
  rw [Bool.and_eq_true] at hdp
  have:=part_kid (List.mem_of_getElem? hy) hdp.1
  rw [hno h hm] at this;cases this
theorem fls_plain {hs:List Hit} {g:Form→Form}:∀ {zs:List Form},(∀ x∈zs,zK x=false)→(∀ x∈zs,x.fl hs=some (g x))→Form.fls zs hs=some (zs.map g)
 | [],_,_=>by rw [Form.fls];rfl
 | x::xs,hn,hg=>by
   rw [Form.fls_eq,hn x (by simp),cond_false,nextD_no (fun z hz=>hn z (by simp [hz])),cond_false,hg x (by simp),fls_plain (zs:=xs) (fun z hz=>hn z (by simp [hz])) (fun z hz=>hg z (by simp [hz]))]
   rfl
theorem fl_self_n (l:List (Form × Int)):∀ (n:Nat) (f:Form),f.w≤n→f.cnt≤400→∀ v hs,zgC l v hs f→f.dotsOk false=true→(∀ h∈hs,Form.part h.name f=false)→f.fl hs=some f:=by
 intro n
 induction n with
 | zero=>intro f h;have:=f.w_kids;omega
 | succ n ih =>
   intro f hn hc v hs hF hd hno
   have hw:=f.w_kids
   rw [Form.fl_eq]
   by_cases h1:f.kind=1
   ·rw [decide_eq_true h1,cond_true]
    unfold findO
    rcases fnd_at (D:=fun y:Hit=>same y.name f) (l:=hs) (k:=0) with ⟨h2,_⟩ | ⟨i,h,_,h3,h4,_⟩
    ·unfold hAt;rw [h2,decide_eq_false (by omega),cond_false]
    ·have:=hno h (List.mem_of_getElem? h3)
     rw [Form.part_eq,same_comm,h4] at this;cases this
   ·rw [decide_eq_false h1,cond_false]
    have hpl:=hF.plain hd hno
    have hcc:=cnt_eq f
    have hd':=hd
    rw [Form.dotsOk_eq] at hd'
    have e:=fls_plain (hs:=hs) (g:=fun x=>x) hpl (fun x hx=>by
     have hxm:=Form.ws_mem hx
     have hxc:=cnts_mem hx
     obtain ⟨i,hi⟩:=List.getElem?_of_mem hx
     have hnx:zbM (f.kids.drop (i+1))=false:=nextD_no (fun z hz=>hpl z (List.mem_of_mem_drop hz))
     refine ih x (by omega) (by omega) v hs (hF.kid hi (hpl x hx) hnx) (kD_kid hd' hx (hpl x hx)) (fun h hm=>?_)
     rw [Bool.eq_false_iff]
     intro hp
     have:=part_kid hx hp
     rw [hno h hm] at this;cases this)
    rw [e,List.map_id']
    simp only
    rw [decide_eq_true (show Form.cnts f.kids≤400 by omega),cond_true]
    obtain ⟨a,b,c,d,e⟩:=f;rfl
end Go.Abs
end
section
set_option linter.unusedVariables false
set_option linter.unusedSimpArgs false
namespace Go.Abs
theorem RulesF.sub {rules rs:List Rule} (h:RulesF rules) (hs:∀ r∈rs,r∈rules):RulesF rs:=⟨fun r hr=>h.fit r (hs r hr),fun r hr=>h.pw r (hs r hr),fun r hr=>h.tw r (hs r hr)⟩
section
variable (code:List Int) (hc:∀ x∈code,0≤x∧x < 256)
include hc
end
end Go.Abs
end
section
set_option linter.unusedVariables false
set_option linter.unusedSimpArgs false
namespace Go.Abs
theorem DrawFill_tq (code:List Int) (hc:∀ x∈code,0≤x∧x < 256):TQ (fun m=>zcd m code) (fun r=>Dr 1000 r.1∧DrH 2000000 r.2) :=
 TQ.eq (fun m=>by unfold zcd;rfl) (TQ.bind (l5Hits_tq code hc) (fun v hv=>TQ.val hv))
end Go.Abs
end
section
set_option linter.unusedVariables false
set_option linter.unusedSimpArgs false
namespace Go.Abs
def withSc (l:List Int) (k:Int):List Int:=bif l.contains k then l else l.take (l.countP (· < k))++[k]++l.drop (l.countP (· < k))
mutual
def Form.dr (k:Int):Form→Form
 | .mk kind name n sc kids=>Form.mk kind name n (bif decide (kind=1) then withSc sc k else []) (Form.drs k kids)
def Form.drs (k:Int):List Form→List Form
 | []=>[]
 | f::fs=>f.dr k::Form.drs k fs
end
theorem Form.drs_eq (k:Int):∀ l:List Form,Form.drs k l=l.map (Form.dr k)
 | []=>rfl
 | f::fs=>by rw [Form.drs,List.map_cons,Form.drs_eq k fs]
theorem Form.dr_eq (k:Int) (f:Form):f.dr k=Form.mk f.kind f.name f.n (bif decide (f.kind=1) then withSc f.scopes k else []) (f.kids.map (Form.dr k)):=by
 obtain ⟨a,b,c,d,e⟩:=f;rw [Form.dr,Form.drs_eq];rfl
theorem dr_kind (k:Int) (f:Form):(f.dr k).kind=f.kind:=by rw [Form.dr_eq];rfl
theorem dr_name (k:Int) (f:Form):(f.dr k).name=f.name:=by rw [Form.dr_eq];rfl
theorem dr_kids (k:Int) (f:Form):(f.dr k).kids=f.kids.map (Form.dr k):=by rw [Form.dr_eq];rfl
theorem scF_lt:∀ {l:List Int} {p:Option Int},scF p l=true→(∀ q,p=some q→∀ x∈l,q < x)∧l.Pairwise (· < ·)
 | [],p,h=>⟨fun _ _ x hx=>(by cases hx),.nil⟩
 | x::xs,p,h=>by
   rw [scF] at h
   simp only [Bool.and_eq_true] at h
   obtain ⟨h1,h2⟩:=scF_lt h.2.2
   refine ⟨fun q hq y hy=>?_,List.pairwise_cons.2 ⟨fun y hy=>h1 x rfl y hy,h2⟩⟩
   have hqx:q < x:=by
    subst hq
    have:=h.2.1
    rw [gtP] at this
    exact of_decide_eq_true this
   rcases List.mem_cons.1 hy with rfl | hy
   ·exact hqx
   ·have:=h1 x rfl y hy;omega
theorem withScope_tr (l:List Int) (k:Int) (hs:scOk l=true):Tr (fun m=>zey m l k) (withSc l k):=by
 unfold scOk at hs
 rw [Bool.and_eq_true,decide_eq_true_eq] at hs
 have hp:l.Pairwise (·≤·):=(scF_lt hs.1).2.imp (fun h=>Int.le_of_lt h)
 refine Tr.eq (fun m=>by unfold zey;rfl) ?_
 refine Tr.bind (v:=(((l.countP (· < k):Nat):Int),l.contains k)) ?_ ?_
 ·refine Tr.eq (fun m=>by unfold zdP;rfl) (Tr.chk (decide_eq_true (by omega)) (Tr.chk (decide_eq_true hp) Tr.val))
 ·unfold withSc
  cases l.contains k with
  | true=>exact Tr.tt rfl Tr.val
  | false =>
    refine Tr.ff rfl (Tr.bind (v:=l.take (l.countP (· < k))++[k]++l.drop (l.countP (· < k))) ?_ Tr.val)
    have hc:l.countP (· < k)≤l.length:=List.countP_le_length
    refine Tr.eq (fun m=>by unfold zfJ;rfl) (Tr.chk (decide_eq_true (Int.natCast_nonneg _)) (Tr.chk (decide_eq_true (by dsimp only;omega)) (Tr.chk (decide_eq_true (by omega)) (Tr.chk rfl Tr.val))))
theorem isOk_sc {f:Form} {d:Nat} (h:f.isOk d=true):(f.kind=1→scOk f.scopes=true)∧(f.kind≠1→f.scopes=[]):=by
 rw [Form.isOk_eq] at h
 cases hd:decide (d=0) with
 | true=>rw [hd] at h;cases h
 | false =>
 rw [hd,cond_false] at h
 by_cases h1:f.kind=1
 ·rw [decide_eq_true h1,cond_true] at h
  simp only [Bool.and_eq_true] at h
  exact ⟨fun _=>h.2.2.1,fun hn=>absurd h1 hn⟩
 ·rw [decide_eq_false h1,cond_false] at h
  refine ⟨fun hh=>absurd hh h1,fun _=>?_⟩
  by_cases h2:f.kind=2
  ·rw [decide_eq_true h2,cond_true] at h
   simp only [Bool.and_eq_true,decide_eq_true_eq] at h
   exact List.length_eq_zero_iff.1 (by omega)
  ·rw [decide_eq_false h2,cond_false] at h
   simp only [Bool.and_eq_true,decide_eq_true_eq] at h
   exact List.length_eq_zero_iff.1 (by omega)
theorem dressed_n (k:Int):∀ (n:Nat) (f:Form),f.w≤n→f.w≤2 ^ 36→(∃ d,f.isOk d=true)→Tr (fun m=>zaE m f k) (f.dr k):=by
 intro n
 induction n with
 | zero=>intro f h _;have:=f.w_kids;omega
 | succ n ih =>
   intro f h hb hok
   obtain ⟨d,hd⟩:=hok
   obtain ⟨s1,s2⟩:=isOk_sc hd
   have hk:=(zft hd).2
   have hw:=f.w_kids
   have hl:=Form.ws_len f.kids
   have lp:∀ g4:List Int,Tr (fun m=>zaB m f k g4) (Form.mk f.kind f.name f.n g4 (f.kids.map (Form.dr k))):=fun g4=>by
    refine Tr.step (fun m=>by rw [zaB]) ?_
    have:=loop_app (xs:=f.kids) (c:=80) (f:=Form.dr k) (L:=fun m i acc=>zaA m f k g4 i acc) (E:=fun m a=>zaE m a k) (fin:=fun g=>Form.mk f.kind f.name f.n g4 g)
     (fun m i acc=>by rw [zaA]) (fun a ha=>ih a (by have:=Form.ws_mem ha;omega) (by have:=Form.ws_mem ha;omega) ⟨_,hk a ha⟩) [] (by simp;omega)
    rw [List.nil_append] at this
    exact this
   refine Tr.step (fun m=>by rw [zaE]) ?_
   rw [Form.dr_eq]
   by_cases h1:f.kind=1
   ·rw [decide_eq_true h1,cond_true]
    refine Tr.tt rfl (Tr.bind (clone_tr _ (by omega)) (Tr.bind (v:=withSc f.scopes k) (Tr.eq (fun m=>by unfold zfg;rfl) (Tr.bind (withScope_tr _ _ (s1 h1)) Tr.val)) ?_))
    exact lp _
   ·rw [decide_eq_false h1,cond_false]
    exact Tr.ff rfl (lp _)
noncomputable def addSc (f:Form) (k:Int):Form × Bool:=bif f.valid&&(decide (1≤k)&&decide (k≤99)) then (bif (f.dr k).valid then (f.dr k,true) else (zbQ,false)) else (zbQ,false)
theorem dr_w (k:Int):∀ (n:Nat) (f:Form),f.w≤n→(f.dr k).w≤2*f.w∧(f.fit→f.w≤2 ^ 40→(f.dr k).fit):=by
 intro n
 induction n with
 | zero=>intro f h;have:=f.w_kids;omega
 | succ n ih =>
   intro f h
   have hw:=f.w_kids
   have hsc:(bif decide (f.kind=1) then withSc f.scopes k else []).length≤f.scopes.length+1:=by
    cases decide (f.kind=1) with
    | false=>simp
    | true =>
      rw [cond_true];unfold withSc
      cases f.scopes.contains k with
      | true=>rw [cond_true];omega
      | false=>rw [cond_false];simp;omega
   have hks:∀ l:List Form,(∀ x∈l,x∈f.kids)→Form.ws (l.map (Form.dr k))≤2*Form.ws l∧(Form.fits l→f.w≤2 ^ 40→Form.fits (l.map (Form.dr k))):=by
    intro l
    induction l with
    | nil=>intro _;exact ⟨by simp [Form.ws],fun _ _=>by rw [List.map_nil,Form.fits];trivial⟩
    | cons x l ihl =>
      intro hx
      obtain ⟨a1,a2⟩:=ihl (fun y hy=>hx y (by simp [hy]))
      have hm:=Form.ws_mem (hx x (by simp))
      obtain ⟨b1,b2⟩:=ih x (by omega)
      refine ⟨by rw [List.map_cons,Form.ws,Form.ws];omega,fun hf hb=>?_⟩
      rw [Form.fits] at hf
      rw [List.map_cons,Form.fits]
      exact ⟨b2 hf.1 (by omega),a2 hf.2 hb⟩
   obtain ⟨c1,c2⟩:=hks f.kids (fun x hx=>hx)
   have hw2:=(f.dr k).w_kids
   refine ⟨?_,fun hf hb=>?_⟩
   ·rw [dr_kids] at hw2
    have:(f.dr k).scopes=(bif decide (f.kind=1) then withSc f.scopes k else []):=by rw [Form.dr_eq];rfl
    rw [this] at hw2
    omega
   ·obtain ⟨f1,f2,f3,f4⟩:=hf.parts
    rw [Form.dr_eq,Form.fit]
    exact ⟨f1,by omega,by rw [List.length_map];exact f3,c2 f4 hb⟩
theorem implAddScope_tr (f:Form) (k:Int) (hf:f.fit):Tr (fun m=>zdZ m f k) (addSc f k):=by
 refine Tr.eq (fun m=>by unfold zdZ;rfl) (Tr.bind (v:=addSc f k) ?_ Tr.val)
 refine Tr.eq (fun m=>by unfold zcy;rfl) (Tr.bind (zdF f hf) ?_)
 unfold addSc
 have no:Tr (fun m=>zal m f k true) (zbQ,false):=Tr.step (fun m=>by rw [zal,cond_true]) Tr.val
 cases hv:f.valid with
 | false=>exact Tr.tt rfl no
 | true =>
 refine Tr.ff rfl (Tr.bind (within_tr _ _ _) ?_)
 rw [Bool.true_and]
 cases (decide (1≤k)&&decide (k≤99)) with
 | false=>exact no
 | true =>
 have hw:=valid_w hv
 have hvd:=hv
 unfold Form.valid at hvd
 rw [Bool.and_eq_true] at hvd
 obtain ⟨w1,w2⟩:=dr_w k _ f (Nat.le_refl _)
 refine Tr.step (fun m=>by rw [zal,Bool.not_true,cond_false]) (Tr.bind (dressed_n k _ f (Nat.le_refl _) (by omega) ⟨_,hvd.1⟩) ?_)
 rw [cond_true]
 refine Tr.bind (v:=bif (f.dr k).valid then (f.dr k,true) else (zbQ,false)) ?_ Tr.val
 refine Tr.eq (fun m=>by unfold zff;rfl) (Tr.bind (zdF _ (w2 hf (by omega))) ?_)
 cases (f.dr k).valid with
 | false=>exact Tr.tt rfl Tr.val
 | true=>exact Tr.ff rfl (Tr.bind (zhS _ (by omega)) Tr.val)
theorem addSc_some {f:Form} {k:Int} (h:(addSc f k).2=true):f.valid=true∧(f.dr k).valid=true∧(addSc f k).1=f.dr k∧addSc f k=(f.dr k,true):=by
 unfold addSc at h ⊢
 cases hg:(f.valid&&(decide (1≤k)&&decide (k≤99))) with
 | false=>rw [hg,cond_false] at h;cases h
 | true =>
 rw [hg,cond_true] at h
 rw [Bool.and_eq_true] at hg
 cases hv:(f.dr k).valid with
 | false=>rw [hv,cond_false] at h;cases h
 | true=>exact ⟨hg.1,rfl,rfl,rfl⟩
theorem dr_dots (k:Int) (f:Form):zK (f.dr k)=zK f:=by unfold zK;rw [dr_kind,dr_name]
end Go.Abs
end
section
set_option linter.unusedVariables false
set_option linter.unusedSimpArgs false
namespace Go.Abs
theorem dep_nd (g:Form):dep (nd []) g=-1:=by unfold dep;cases decide (g.kind≠1)<;>rfl
theorem kD_dr (k:Int) (one:Bool):∀ (l:List Form),(∀ x∈l,(x.dr k).dotsOk one=x.dotsOk one)→∀ pd sn,Form.kD one pd sn (l.map (Form.dr k))=Form.kD one pd sn l
 | [],_,pd,sn=>rfl
 | x::xs,h,pd,sn=>by rw [List.map_cons,Form.kD,Form.kD,dr_dots,h x (by simp),kD_dr k one xs (fun y hy=>h y (by simp [hy]))]
theorem dotsOk_dr (k:Int) (one:Bool):∀ (n:Nat) (f:Form),f.w≤n→(f.dr k).dotsOk one=f.dotsOk one:=by
 intro n
 induction n with
 | zero=>intro f h;have:=f.w_kids;omega
 | succ n ih =>
   intro f h
   have hw:=f.w_kids
   rw [Form.dotsOk_eq,Form.dotsOk_eq,dr_kids]
   exact kD_dr k one f.kids (fun x hx=>ih x (by have:=Form.ws_mem hx;omega)) _ _
theorem nextD_dr (k:Int):∀ l:List Form,zbM (l.map (Form.dr k))=zbM l
 | []=>rfl
 | x::xs=>by rw [List.map_cons,zbM,zbM,dr_dots]
theorem anyD_no:∀ (n:Nat) (f:Form) (v:Nat),f.w≤n→f.anyD (nd []) v=false:=by
 intro n
 induction n with
 | zero=>intro f v h;have:=f.w_kids;omega
 | succ n ih =>
   intro f v h
   have hw:=f.w_kids
   have hks:∀ l:List Form,(∀ x∈l,x∈f.kids)→Form.anyDs (nd []) v l=false:=by
    intro l
    induction l with
    | nil=>intro _;rfl
    | cons x l ihl =>
      intro hx
      rw [Form.anyDs,ih x v (by have:=Form.ws_mem (hx x (by simp));omega),ihl (fun y hy=>hx y (by simp [hy]))];rfl
   rw [Form.anyD_eq,dep_nd,hks _ (fun x hx=>hx),decide_eq_false (by omega)];rfl
theorem kR_dr (k:Int):∀ (l:List Form),(∀ x∈l,∀ v,(x.dr k).rws (nd []) v=x.rws (nd []) v)→∀ v,Form.kR (nd []) v (l.map (Form.dr k))=Form.kR (nd []) v l
 | [],_,v=>rfl
 | x::xs,h,v=>by
   rw [List.map_cons,Form.kR,Form.kR,dr_dots,nextD_dr,h x (by simp),h x (by simp),anyD_no _ x v (Nat.le_refl _),anyD_no _ (x.dr k) v (Nat.le_refl _),kR_dr k xs (fun y hy=>h y (by simp [hy]))]
theorem rws_dr (k:Int):∀ (n:Nat) (f:Form),f.w≤n→∀ v,(f.dr k).rws (nd []) v=f.rws (nd []) v:=by
 intro n
 induction n with
 | zero=>intro f h;have:=f.w_kids;omega
 | succ n ih =>
   intro f h v
   have hw:=f.w_kids
   rw [Form.rws_eq,Form.rws_eq,dep_nd,dep_nd,dr_kids]
   rw [kR_dr k f.kids (fun x hx=>ih x (by have:=Form.ws_mem hx;omega))]
theorem fillT_self {t:Form} (h:zge t (nd [])=true):fillT t []=(t,true):=by
 have hv:hvOk []=true:=rfl
 obtain ⟨p1,p2,p3,p4⟩:=zgu h
 have hcnt:t.cnt≤400:=by
  have:=p1
  unfold Form.valid at this
  rw [Bool.and_eq_true,decide_eq_true_eq] at this;exact this.2
 have:=fl_self_n (nd []) _ t (Nat.le_refl _) hcnt 0 [] (fillS_of hv h) p3 (fun h hh=>by cases hh)
 unfold fillT fillV
 rw [hv,h,this]
 dsimp only
 rw [p1];rfl
theorem FnFillScope_law (code:List Int) (hc:∀ x∈code,0≤x∧x < 256):TQ (fun m=>zeO m code) (fun r=>r=true):=by
 refine codeB (fun _=>?_) (fun m=>by unfold zeO;rfl)
 refine TQ.bind (DrawFill_tq code hc) (fun v hv=>TQ.same ?_)
 obtain ⟨t,hs⟩:=v
 obtain ⟨h1,h2⟩:=hv
 replace h1:Dr 1000 t:=h1
 replace h2:DrH 2000000 hs:=h2
 have hw:=h1.w
 have hl:=h2.w
 have hll:=Hit.ws_len hs
 have hfo:∀ y,t.fl hs=some y→y.fit:=fun y hy=>fl_fit h1.fit h2.fit hy
 refine Tr.bind (zfN t hs h1.fit (by omega) h2.fit (by omega) hfo) (Tr.bind (specFillTemplate_tr t hs h1.fit (by omega) h2.fit (by omega) hfo) (Tr.bind (zch _ _) ?_))
 rw [zgv]
 refine Tr.ff rfl (Tr.ff (by simp) ?_)
 have no:Tr (fun m=>zaC m (t,hs) (fillT t hs) (fillT t hs) true) true:=by
  refine Tr.step (fun m=>by rw [zaC,cond_true]) (Tr.bind (zch _ _) ?_)
  rw [zgv]
  exact Tr.tt rfl (Tr.step (fun m=>by rw [zb4,decide_eq_true rfl]) Tr.val)
 cases hg:(fillT t hs).2 with
 | false=>exact Tr.tt rfl no
 | true =>
 refine Tr.ff rfl ?_
 cases hs with
 | cons h hs=>exact Tr.eq (fun m=>by rw [decide_eq_true (by simp)]) no
 | nil =>
 have ht:zge t (nd [])=true:=by
  cases ho:zge t (nd []) with
  | true=>rfl
  | false=>unfold fillT at hg;rw [ho,Bool.and_false] at hg;cases hg
 rw [fillT_self ht]
 obtain ⟨p1,p2,p3,p4⟩:=zgu ht
 refine Tr.step (fun m=>by rw [decide_eq_false (by simp),zaC,cond_false]) (Tr.bind (implAddScope_tr t 66 h1.fit) (Tr.bind (implAddScope_tr t 66 h1.fit) ?_))
 obtain ⟨dw,df⟩:=dr_w 66 _ t (Nat.le_refl _)
 cases ha:(addSc t 66).2 with
 | false =>
   have e:addSc t 66=(zbQ,false):=by
    unfold addSc at ha ⊢
    cases hq:(t.valid&&(decide ((1:Int)≤66)&&decide ((66:Int)≤99))) with
    | false=>rfl
    | true =>
      rw [hq,cond_true] at ha
      cases hv:(t.dr 66).valid with
      | false=>rfl
      | true=>rw [hv] at ha;cases ha
   rw [e]
   have f0:zbQ.fit:=by unfold zbQ;rw [Form.fit,Form.fits];decide
   have w0:zbQ.w≤10:=by decide
   have fl0:∀ y,zbQ.fl []=some y→y.fit:=fun y hy=>fl_fit f0 (by rw [Hit.fits];trivial) hy
   exact Tr.bind (zfN zbQ [] f0 (by omega) (by rw [Hit.fits];trivial) (by simp [Hit.ws]) fl0) (Tr.tt rfl Tr.val)
 | true =>
   obtain ⟨a1,a2,a3,a4⟩:=addSc_some ha
   rw [a4]
   have fx:=df h1.fit (by omega)
   have htx:zge (t.dr 66) (nd [])=true:=by
    unfold zge
    rw [a2,dr_dots,p2,dotsOk_dr 66 _ _ t (Nat.le_refl _),p3,rws_dr 66 _ t (Nat.le_refl _),p4];rfl
   refine Tr.bind (zfN (t.dr 66) [] fx (by omega) (by rw [Hit.fits];trivial) (by simp [Hit.ws]) (fun y hy=>fl_fit fx (by rw [Hit.fits];trivial) hy)) ?_
   rw [fillT_self htx]
   refine Tr.ff rfl (Tr.ff rfl (Tr.tt rfl (Tr.bind (zch _ _) ?_)))
   rw [zgv];exact Tr.val
end Go.Abs
end
