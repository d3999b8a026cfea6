/- A part of the proof: what the functions that the law calls answer, as pure values. -/
import Derived.Test.YtpdacpnncmemgaaGreatK44963eedd702
import Derived.Test.YtpdacpnncmemgaaGreatKe05290cf3b33
import Derived.Test.YtpdacpnncmemgaaGreatK5dc3193c2016
import Derived.Test.YtpdacpnncmemgaaGreatKa647db9ee9e6
import Derived.Test.YtpdacpnncmemgaaGreatK57e2d81719e9
set_option linter.unusedSimpArgs false
set_option linter.unusedVariables false
section
set_option linter.unusedVariables false
set_option linter.unusedSimpArgs false
namespace Go.Abs
theorem fnd_any {α:Type} {D:α→Bool} {l:List α} {k:Nat}:decide (0≤fnd D l k)=anys D l:=by
 rw [Bool.eq_iff_iff,decide_eq_true_iff,fnd_ge,anys_iff]
theorem zgA (l:List Bind) (hl:l.length≤9223372036854775807) (hf:∀ b∈l,b.fit):Tr (fun m=>zcA m l) (bvOk l):=by
 refine Tr.eq (fun m=>by unfold zcA;rfl) ?_
 have key:=zac l (fun k zs=>Tr (fun m=>zbr m l (k:Int)) (bvF (l.take k) zs&&decide ((l.length:Int)≤60))) ?_ ?_ 0 (Nat.zero_le _)
 ·simpa [bvOk] using key
 ·exact Tr.step (fun m=>by rw [zbr,zW,cond_false]) (by rw [bvF,Bool.true_and];exact Tr.val)
 ·intro k x zs hk hx hd ih
  have hm:=List.mem_of_getElem? hx
  have hxf:=hf x hm
  rw [zeF hx] at ih
  have j2:∀ b:Bool,bindOk x=!b→Tr (fun m=>zaZ m l (k:Int) x b) (bvF (l.take k) (x::zs)&&decide ((l.length:Int)≤60)):=by
   intro b hb
   rw [bvF,hb]
   cases b with
   | true=>exact Tr.step (fun m=>by rw [zaZ,cond_true];rfl) Tr.val
   | false =>
     rw [Bool.not_false,Bool.true_and]
     refine Tr.step (fun m=>by rw [zaZ,cond_false,zhq (by omega),Option.bind_some,zbM]) ?_
     refine Tr.bind (v:=anys (fun c=>decide (c.name=x.name)&&same c.scopes x.scopes) (l.take k)) ?_ ?_
     ·refine Tr.eq (fun m=>by unfold zaK;rfl) (Tr.bind (v:=fnd (fun c=>decide (c.name=x.name)&&same c.scopes x.scopes) (l.take k) 0) ?_ (Tr.of fun m=>by rw [fnd_any]))
      refine Tr.eq (fun m=>by unfold za4;rfl) ?_
      refine zdG (L:=fun m j=>zT m (l.take k) x j) (E:=fun m y=>zds m y x) (fun m j=>by rw [zT]) (fun y _=>?_)
      refine Tr.eq (fun m=>by unfold zds;rfl) ?_
      cases decide (y.name=x.name) with
      | false=>exact Tr.ff rfl Tr.val
      | true=>exact Tr.tt rfl (Tr.bind (slEqual_tr _ _) Tr.val)
     ·cases anys (fun c=>decide (c.name=x.name)&&same c.scopes x.scopes) (l.take k) with
      | true=>exact Tr.tt rfl Tr.val
      | false=>exact Tr.ff rfl (by rw [Bool.not_false,Bool.true_and];exact ih)
  refine Tr.step (fun m=>by rw [zbr,ltN hk,cond_true,zG hx,Option.bind_some]) (Tr.bind (implNm_tr _ hxf.1) ?_)
  cases hn:nmOk x.name with
  | false=>exact Tr.tt rfl (j2 true (by unfold bindOk;rw [hn];rfl))
  | true =>
  refine Tr.ff rfl (Tr.bind (implSc_tr _ hxf.2) ?_)
  cases hs:scOk x.scopes with
  | false=>exact Tr.tt rfl (j2 true (by unfold bindOk;rw [hn,hs];rfl))
  | true =>
  refine Tr.ff rfl (Tr.bind (within_tr _ _ _) (j2 _ ?_))
  unfold bindOk;rw [hn,hs,Bool.not_not];rfl
theorem hasC_tr (l:List Int) (n:Int):Tr (fun m=>zcG m l n) (hasB l n):=by
 refine Tr.eq (fun m=>by unfold zcG;rfl) (Tr.bind (v:=fnd (fun y=>decide (n=y)) l 0) ?_ ?_)
 ·refine Tr.eq (fun m=>by unfold zeV;rfl) ?_
  exact zdG (L:=fun m j=>zbG m l n j) (E:=fun m y=>some (decide (n=y))) (fun m j=>by rw [zbG];rfl) (fun y _=>Tr.val)
 ·have e:decide (0≤fnd (fun y=>decide (n=y)) l 0)=hasB l n:=by
   rw [fnd_any,Bool.eq_iff_iff,anys_iff,hasB,anys_iff]
   simp only [decide_eq_true_eq,eq_comm]
  rw [← e];exact Tr.val
theorem not_anys {α:Type} {D:α→Bool}:∀ {l:List α},(!anys (fun x=>!D x) l)=alls D l
 | []=>rfl
 | x::xs=>by rw [anys,alls,Bool.not_or,Bool.not_not,not_anys]
theorem implWithin_tr (a b:List Int):Tr (fun m=>zcy m a b) (withinB a b):=by
 refine Tr.eq (fun m=>by unfold zcy;rfl) (Tr.bind (v:=anys (fun x=>!hasB b x) a) ?_ ?_)
 ·refine Tr.eq (fun m=>by unfold zaF;rfl) (Tr.bind (v:=fnd (fun x=>!hasB b x) a 0) ?_ (Tr.of fun m=>by rw [fnd_any]))
  refine Tr.eq (fun m=>by unfold zaY;rfl) ?_
  exact zdG (L:=fun m j=>zP m a b j) (E:=fun m y=>zcL m y b) (fun m j=>by rw [zP]) (fun y _=>Tr.eq (fun m=>by unfold zcL;rfl) (Tr.bind (hasC_tr _ _) Tr.val))
 ·rw [← show (!anys (fun x=>!hasB b x) a)=withinB a b from not_anys];exact Tr.val
theorem fitting_tr (l:List Bind) (f:Form) (hb:l.length≤2 ^ 36):Tr (fun m=>zfI m l f) (fitsB l f):=by
 refine Tr.eq (fun m=>by unfold zfI;rfl) ?_
 have key:=zac l (fun k zs=>∀ g:List Int,g.length≤k→Tr (fun m=>zbQ m l f g (k:Int)) (g++fitsF f zs k)) ?_ ?_ 0 (Nat.zero_le _) [] (by simp)
 ·exact key
 ·intro g _
  refine Tr.step (fun m=>by rw [zbQ,zW,cond_false]) ?_
  rw [fitsF,List.append_nil];exact Tr.val
 ·intro k x zs hk hx hd ih g hg
  refine Tr.step (fun m=>by rw [zbQ,ltN hk,cond_true,zG hx,Option.bind_some]) ?_
  rw [fitsF]
  have j2:∀ b:Bool,fitB f x=b→Tr (fun m=>zcx m l f g (k:Int) b) (g++((bif fitB f x then [(k:Int)] else [])++fitsF f zs (k+1))):=by
   intro b hb
   rw [hb]
   refine Tr.step (fun m=>by rw [zcx]) ?_
   cases b with
   | true =>
     refine Tr.tt rfl (Tr.chk (decide_eq_true (by simp;omega)) ?_)
     have:=ih (g++[(k:Int)]) (by simp;omega)
     rw [List.append_assoc] at this
     exact this
   | false=>exact Tr.ff rfl (by simpa using ih g (by omega))
  unfold fitB at j2
  by_cases hn:x.name=f.name
  ·refine Tr.tt (decide_eq_true hn) (Tr.bind (implWithin_tr _ _) (j2 _ ?_))
   rw [decide_eq_true hn,Bool.true_and]
  ·refine Tr.ff (decide_eq_false hn) (j2 false ?_)
   rw [decide_eq_false hn,Bool.false_and]
theorem bound_tr (l:List Bind) (f:Form) (hb:l.length≤2 ^ 36):Tr (fun m=>zgM m l f) (refB l f):=by
 refine Tr.eq (fun m=>by unfold zgM;rfl) (Tr.bind (fitting_tr l f hb) ?_)
 unfold refB
 have hm:∀ i∈fitsB l f,0≤i∧i < (l.length:Int):=fun i hi=>fitsB_mem hi
 generalize fitsB l f=fs at hm
 by_cases h0:fs=[]
 ·subst h0;exact Tr.tt rfl Tr.val
 have hpos:0 < fs.length:=by cases fs with
  | nil=>exact absurd rfl h0
  | cons a b=>simp
 rw [decide_eq_true (show 0 < (fs.length:Int) by omega),cond_true]
 refine Tr.ff (decide_eq_false (by omega)) ?_
 have key:=zac fs (fun k zs=>(∀ z∈zs,z∈fs)→Tr (fun m=>zcK m l fs (k:Int)) (match firstB l fs zs with
  | some i=>(i,1)
  | none=>(0,2))) ?_ ?_ 0 (Nat.zero_le _) (fun z hz=>by simpa using hz)
 ·exact key
 ·intro _
  exact Tr.step (fun m=>by rw [zcK,zW,cond_false];rfl) Tr.val
 ·intro k x zs hk hx hd ih hz
  have hx1:=hm x (hz x (by simp))
  refine Tr.step (fun m=>by rw [zcK,ltN hk,cond_true,zG hx,Option.bind_some,zbM]) ?_
  rw [firstB]
  refine Tr.bind (v:=anys (fun j=>!withinB (bAt l j).scopes (bAt l x).scopes) fs) ?_ ?_
  ·refine Tr.eq (fun m=>by unfold zbw;rfl) (Tr.bind (v:=fnd (fun j=>!withinB (bAt l j).scopes (bAt l x).scopes) fs 0) ?_ (Tr.of fun m=>by rw [fnd_any]))
   refine Tr.eq (fun m=>by unfold zbR;rfl) ?_
   refine zdG (L:=fun m j=>zad m fs l x j) (E:=fun m y=>zfK m y l x) (fun m j=>by rw [zad]) (fun y hy=>?_)
   have hy1:=hm y hy
   exact Tr.eq (fun m=>by unfold zfK;rw [bAt_idx hy1.1 hy1.2,Option.bind_some,bAt_idx hx1.1 hx1.2,Option.bind_some]) (Tr.bind (implWithin_tr _ _) Tr.val)
  ·have e:(!anys (fun j=>!withinB (bAt l j).scopes (bAt l x).scopes) fs)=bestB l fs x:=not_anys
   cases hbb:bestB l fs x with
   | true=>exact Tr.tt (e.trans hbb) Tr.val
   | false=>exact Tr.ff (e.trans hbb) (ih (fun z hzz=>hz z (by simp [hzz])))
theorem rulesOk_tr (rules:List Rule) (lits:List Form) (hr:∀ r∈rules,r.fit∧r.pattern.w≤2 ^ 36∧r.template.w≤2 ^ 36) (hl:Form.fits lits):Tr (fun m=>zeJ m rules lits) (zbs rules lits):=by
 refine Tr.eq (fun m=>by unfold zeJ;rfl) ?_
 unfold zbs
 by_cases h9:(rules.length:Int)≤9
 case neg=>rw [decide_eq_false h9,Bool.false_and,Bool.and_false];exact Tr.ff rfl Tr.val
 rw [decide_eq_true h9,Bool.true_and]
 refine Tr.tt rfl (Tr.bind (implLit_tr lits hl) ?_)
 cases litOk lits with
 | false=>rw [Bool.and_false];exact Tr.ff rfl Tr.val
 | true =>
 rw [Bool.and_true]
 refine Tr.tt rfl (Tr.bind (v:=anys (fun r=>!zgI r lits) rules) ?_ ?_)
 ·refine Tr.eq (fun m=>by unfold za5;rfl) (Tr.bind (v:=fnd (fun r=>!zgI r lits) rules 0) ?_ (Tr.of fun m=>by rw [fnd_any]))
  refine Tr.eq (fun m=>by unfold zbu;rfl) ?_
  refine zdG (L:=fun m j=>z6 m rules lits j) (E:=fun m y=>zey m y lits) (fun m j=>by rw [z6]) (fun y hy=>?_)
  have h:=hr y hy
  exact Tr.eq (fun m=>by unfold zey;rfl) (Tr.bind (implRuleValid_tr y lits h.1.p h.2.1 h.1.t h.2.2 hl) Tr.val)
 ·rw [show (fun m=>some (!anys (fun r=>!zgI r lits) rules))=fun (m:Nat)=>some (alls (fun r=>zgI r lits) rules) from funext fun _=>by rw [not_anys]]
  exact Tr.val
end Go.Abs
end
section
set_option linter.unusedVariables false
set_option linter.unusedSimpArgs false
namespace Go.Abs
theorem isOk_mono:∀ (n:Nat) (f:Form),f.w≤n→∀ d e,d≤e→f.isOk d=true→f.isOk e=true:=by
 intro n
 induction n with
 | zero=>intro f h;have:=f.w_kids;omega
 | succ n ih =>
   intro f hf d e hde h
   have hw:=f.w_kids
   rw [Form.isOk_eq] at h ⊢
   by_cases hd:d=0
   ·rw [decide_eq_true hd] at h;cases h
   rw [decide_eq_false hd,cond_false] at h
   rw [decide_eq_false (show ¬ e=0 by omega),cond_false]
   cases h1:decide (f.kind=1) with
   | true=>rw [h1,cond_true] at h;exact h
   | false =>
   rw [h1,cond_false] at h
   rw [cond_false]
   cases h2:decide (f.kind=2) with
   | true=>rw [h2,cond_true] at h;exact h
   | false =>
   rw [h2,cond_false] at h
   rw [cond_false]
   simp only [Bool.and_eq_true] at h ⊢
   obtain ⟨a,b,c,k,g⟩:=h
   refine ⟨a,b,c,k,?_⟩
   rw [zc7] at g ⊢
   exact fun x hx=>ih x (by have:=Form.ws_mem hx;omega) (d-1) (e-1) (by omega) (g x hx)
theorem cnts_mem:∀ {l:List Form} {x:Form},x∈l→x.cnt≤Form.cnts l
 | y::ys,x,h=>by
   rw [Form.cnts]
   rcases List.mem_cons.1 h with rfl | h
   ·omega
   ·have:=cnts_mem h;omega
theorem cnts_len:∀ (l:List Form),l.length≤Form.cnts l
 | []=>by simp
 | y::ys=>by
   have:=cnts_len ys
   have:=y.cnt_eq
   rw [Form.cnts,List.length_cons];omega
theorem valid_kid {f x:Form} (h:f.valid=true) (hx:x∈f.kids):x.valid=true:=by
 unfold Form.valid at h ⊢
 rw [Bool.and_eq_true,decide_eq_true_eq] at h ⊢
 have:=(zfL h.1).2 x hx
 have h2:=cnts_mem hx
 have h3:=f.cnt_eq
 exact ⟨isOk_mono _ x (Nat.le_refl _) (40-1) 40 (by omega) this,by omega⟩
def HitD:Nat→Hit→Prop
 | 0,h=>h.depth=0∧h.one.valid=true∧h.many=[]
 | d+1,h=>h.depth=(d:Int)+1∧h.one=zcr∧h.many.length≤400∧∀ x∈h.many,x.name=h.name∧HitD d x
def nameG (f:Form):Bool:=isNm f&&(!decide (f.name=dotsN)&&!decide (f.name=zd0))
theorem HitD.depth {d:Nat} {h:Hit} (hd:HitD d h):h.depth=(d:Int):=by
 cases d with
 | zero=>exact hd.1
 | succ d=>rw [hd.1];omega
theorem HitD.isOk:∀ (d:Nat) (h:Hit),d≤3→HitD d h→nameG h.name=true→h.isOk=true
 | 0,h,hd,hh,hn=>by
   obtain ⟨h1,h2,h3⟩:=hh
   unfold nameG at hn
   simp only [Bool.and_eq_true] at hn
   rw [Hit.isOk_eq,hn.1,hn.2.1,hn.2.2,h1,h2,h3];rfl
 | d+1,h,hd,hh,hn=>by
   obtain ⟨h1,h2,h3,h4⟩:=hh
   have hn0:=hn
   unfold nameG at hn
   simp only [Bool.and_eq_true] at hn
   rw [Hit.isOk_eq,hn.1,hn.2.1,hn.2.2,h1,h2,zhb,decide_eq_false (show ¬ (d:Int)+1=0 by omega),decide_eq_true (show (0:Int)≤(d:Int)+1 by omega),decide_eq_true (show (d:Int)+1≤3 by omega),decide_eq_true (show (h.many.length:Int)≤400 by omega)]
   simp only [Bool.true_and,cond_false]
   rw [zc7]
   intro x hx
   obtain ⟨e1,e2⟩:=h4 x hx
   rw [e1,zhb,e2.depth,decide_eq_true (show (d:Int)=(d:Int)+1-1 by omega),HitD.isOk d x (by omega) e2 (by rw [e1];exact hn0)]
   rfl
theorem hvF_of:∀ {l:List Hit} {ps:List Hit},(∀ x∈l,x.isOk=true)→distF (ps.map Hit.name) (l.map Hit.name)=true→hvF ps l=true
 | [],ps,_,_=>by rw [hvF]
 | x::l,ps,h,hd=>by
   rw [List.map_cons,distF,Bool.and_eq_true] at hd
   rw [hvF,Bool.and_eq_true,Bool.and_eq_true]
   refine ⟨h x (by simp),?_,hvF_of (fun y hy=>h y (by simp [hy])) (by rw [List.map_append];exact hd.2)⟩
   have h1:=hd.1
   unfold inF at h1
   rw [Bool.not_not,zc7] at h1
   rw [zc7]
   exact fun y hy=>h1 y.name (List.mem_map_of_mem hy)
theorem cnts_append:∀ (a b:List Form),Form.cnts (a++b)=Form.cnts a+Form.cnts b
 | [],b=>by rw [List.nil_append,Form.cnts,Nat.zero_add]
 | x::a,b=>by rw [List.cons_append,Form.cnts,Form.cnts,cnts_append a b];omega
end Go.Abs
end
section
set_option linter.unusedVariables false
set_option linter.unusedSimpArgs false
namespace Go.Abs
theorem hvF_apart:∀ {l ps:List Hit},hvF ps l=true→∀ h∈l,∀ p∈ps,same p.name h.name=false
 | x::xs,ps,hv,h,hh,p,hp=>by
   rw [hvF,Bool.and_eq_true,Bool.and_eq_true] at hv
   rcases List.mem_cons.1 hh with rfl | hh
   ·have:=zc7.1 hv.2.1 p hp
    simpa using this
   ·exact hvF_apart hv.2.2 h hh p (List.mem_append_left _ hp)
theorem hv_dep:∀ {l ps:List Hit},hvF ps l=true→∀ h∈l,depF (nd l) h.name=h.depth
 | x::xs,ps,hv,h,hh=>by
   have hv':=hv
   rw [hvF,Bool.and_eq_true,Bool.and_eq_true] at hv
   show depF ((x.name,x.depth)::nd xs) h.name=h.depth
   rw [depF]
   rcases List.mem_cons.1 hh with rfl | hh
   ·rw [zhb,cond_true]
   ·rw [hvF_apart hv.2.2 h hh x (by simp),cond_false]
    exact hv_dep hv.2.2 h hh
end Go.Abs
end
section
set_option linter.unusedVariables false
set_option linter.unusedSimpArgs false
namespace Go.Abs
theorem FindName_tr (l:List Bind) (f:Form) (hl:l.length≤2 ^ 36) (hb:∀ b∈l,b.fit) (hf:f.fit) (hv:bvOk l=true) (hn:isNm f=true) :
  Tr (fun m=>zdY m l f) (bif decide ((refB l f).2=1) then (bAt l (refB l f).1).id else 0,(refB l f).2):=by
 refine Tr.eq (fun m=>by unfold zdY;rfl) (Tr.bind (zgA l (by omega) hb) ?_)
 rw [hv]
 refine Tr.ff rfl (Tr.bind (zgq f hf) ?_)
 rw [hn]
 refine Tr.step (fun m=>by rw [zcQ,Bool.not_true,cond_false]) (Tr.bind (bound_tr l f hl) ?_)
 rcases refB_cases l f with ⟨i,ha,i0,i1⟩ | ha | ha
 ·rw [ha]
  exact Tr.ff (by simp) (Tr.eq (fun m=>by rw [bAt_idx i0 i1,Option.bind_some];rfl) Tr.val)
 ·rw [ha];exact Tr.tt (by simp) Tr.val
 ·rw [ha];exact Tr.tt (by simp) Tr.val
theorem sameRef_tr (l:List Bind) (a b:Form) (hl:l.length≤2 ^ 36) (hb:∀ b∈l,b.fit) (ha:a.fit) (hbf:b.fit) :
  Tr (fun m=>zc1 m l a b) (bvOk l&&(isNm a&&(isNm b&&refS l a b))):=by
 refine Tr.eq (fun m=>by unfold zc1;rfl) (Tr.bind (zgA l (by omega) hb) ?_)
 have no:Tr (fun m=>zaA m l a b true) false:=Tr.step (fun m=>by rw [zaA,cond_true]) Tr.val
 cases hv:bvOk l with
 | false=>exact Tr.tt rfl no
 | true =>
 refine Tr.ff rfl (Tr.bind (zgq a ha) ?_)
 cases hna:isNm a with
 | false=>exact Tr.tt rfl no
 | true =>
 refine Tr.ff rfl (Tr.bind (zgq b hbf) ?_)
 cases hnb:isNm b with
 | false=>exact no
 | true =>
 refine Tr.step (fun m=>by rw [zaA,Bool.not_true,cond_false]) (Tr.bind (FindName_tr l a hl hb ha hv hna) (Tr.bind (FindName_tr l b hl hb hbf hv hnb) ?_))
 rw [Bool.true_and,Bool.true_and,Bool.true_and]
 unfold refS
 rcases refB_cases l a with ⟨i,ea,i0,i1⟩ | ea | ea<;>rcases refB_cases l b with ⟨j,eb,j0,j1⟩ | eb | eb<;>rw [ea,eb]
 ·refine Tr.tt rfl (Tr.tt rfl ?_)
  by_cases h:(bAt l i).id=(bAt l j).id
  ·exact Tr.tt (by simpa using h) (by simpa [h] using Tr.val)
  ·exact Tr.ff (by simpa using h) (Tr.ff (by simp) (by simpa [h] using Tr.val))
 ·exact Tr.tt rfl (Tr.ff (by simp) (Tr.ff (by simp) (by simpa using Tr.val)))
 ·exact Tr.tt rfl (Tr.ff (by simp) (Tr.ff (by simp) (by simpa using Tr.val)))
 ·exact Tr.ff (by simp) (Tr.ff (by simp) (by simpa using Tr.val))
 ·exact Tr.ff (by simp) (Tr.ff (by simp) (by simpa using Tr.val))
 ·exact Tr.ff (by simp) (Tr.ff (by simp) (by simpa using Tr.val))
 ·exact Tr.ff (by simp) (Tr.tt rfl (Tr.ff (by simp) (by simpa using Tr.val)))
 ·exact Tr.ff (by simp) (Tr.tt rfl (Tr.ff (by simp) (by simpa using Tr.val)))
 ·exact Tr.ff (by simp) (Tr.tt rfl (Tr.tt rfl (by simpa using Tr.val)))
def oR (o:Option (List Hit)):List Hit × Bool:=(o.getD [],o.isSome)
def oacc (acc:List Hit) (o:Option (List Hit)):Option (List Hit):=o.map (acc++·)
theorem oacc_oapp (acc:List Hit) (a b:Option (List Hit)):oacc acc (oapp a b)=match a with
  | none=>none
  | some h=>oacc (acc++h) b:=by
 cases a<;>cases b<;>simp [oacc,oapp]
theorem dotsAt_tr (l:List Form):Tr (fun m=>zd9 m l) (fnd zC l 0):=by
 refine Tr.eq (fun m=>by unfold zd9;rfl) (Tr.bind ?_ Tr.val)
 refine Tr.eq (fun m=>by unfold zaS;rfl) ?_
 exact zdG (L:=fun m i=>zJ m l i) (E:=fun m y=>zdp m y) (fun m i=>by rw [zJ]) (fun y _=>Tr.eq (fun m=>by unfold zdp;rfl) (Tr.bind (zeQ _ _) Tr.val))
theorem fnd_pre {α:Type} {D:α→Bool}:∀ {xs:List α} {y:α} {zs:List α} {k:Nat},(∀ x∈xs,D x=false)→D y=true→fnd D (xs++y::zs) k=((k+xs.length:Nat):Int)
 | [],y,zs,k,_,hy=>by rw [List.nil_append,fnd,hy,cond_true];simp
 | x::xs,y,zs,k,h,hy=>by
   rw [List.cons_append,fnd,h x (by simp),cond_false,fnd_pre (fun z hz=>h z (by simp [hz])) hy,List.length_cons]
   congr 1;omega
theorem cntD_zero:∀ {l:List Form},cntD l=0→∀ x∈l,zC x=false
 | y::ys,h,x,hx=>by
   rw [cntD] at h
   rcases List.mem_cons.1 hx with rfl | hx
   ·cases hd:zC x with
    | false=>rfl
    | true=>rw [hd] at h;simp at h
   ·exact cntD_zero (by omega) x hx
theorem cntD_split:∀ {l:List Form},cntD l≤1→(∀ x∈l,zC x=false)∨∃ xs y zs,l=xs++y::zs∧(∀ x∈xs,zC x=false)∧zC y=true∧∀ x∈zs,zC x=false
 | [],_=>.inl (fun x hx=>by cases hx)
 | y::ys,h=>by
   rw [cntD] at h
   cases hd:zC y with
   | true =>
     rw [hd,cond_true] at h
     exact .inr ⟨[],y,ys,rfl,(fun x hx=>by cases hx),hd,cntD_zero (by omega)⟩
   | false =>
     rw [hd,cond_false] at h
     rcases cntD_split (l:=ys) (by omega) with h1 | ⟨xs,z,zs,rfl,h2,h3,h4⟩
     ·exact .inl (fun x hx=>by
       rcases List.mem_cons.1 hx with rfl | hx
       ·exact hd
       ·exact h1 x hx)
     ·exact .inr ⟨y::xs,z,zs,rfl,(fun x hx=>by
       rcases List.mem_cons.1 hx with rfl | hx
       ·exact hd
       ·exact h2 x hx),h3,h4⟩
theorem nextD_no {l:List Form} (h:∀ x∈l,zC x=false):zdu l=false:=by
 cases l with
 | nil=>rfl
 | cons y ys=>exact h y (by simp)
theorem fnd_no {α:Type} {D:α→Bool}:∀ {l:List α} {k:Nat},(∀ x∈l,D x=false)→fnd D l k=-1
 | [],_,_=>rfl
 | x::xs,k,h=>by rw [fnd,h x (by simp),cond_false,fnd_no (fun y hy=>h y (by simp [hy]))]
theorem zg8 {α:Type} {l xs:List α} {x:α} {k:Nat} (h:l.drop k=x::xs):l[k]?=some x∧l.drop (k+1)=xs∧k < l.length:=by
 have h1:l[k]?=some x:=by have:=congrArg (fun l=>l[0]?) h;simpa using this
 exact ⟨h1,by rw [← List.drop_drop,h];rfl,(List.getElem?_eq_some_iff.1 h1).1⟩
theorem zf0:∀ (vs:List (Form × Int)) (k:Nat) (rows:List (List Hit)),(rowH k vs rows).length=vs.length
 | [],_,_=>rfl
 | v::vs,k,rows=>by rw [rowH,List.length_cons,List.length_cons,zf0 vs]
theorem rowH_get:∀ {vs:List (Form × Int)} {k j:Nat} {rows:List (List Hit)} {v:Form × Int},vs[j]?=some v→(rowH k vs rows)[j]?=some (Hit.mk v.1 (v.2+1) zcr (rows.map fun r=>r.getD (k+j) hit0))
 | x::xs,k,0,rows,v,h=>by simp at h;subst h;rfl
 | x::xs,k,j+1,rows,v,h=>by
   rw [rowH,List.getElem?_cons_succ,rowH_get (vs:=xs) (by simpa using h),Nat.add_assoc,Nat.add_comm 1 j]
structure MatS (bs:List Bind) (lits:List Form) (P F:Form):Prop where
 kid:∀ x∈P.kids,KidS x
 ih:∀ x∈P.kids,zC x=false→∀ f∈F.kids,Tr (fun m=>zcJ m bs x lits f) (oR (x.mt bs lits f))
 wp:Form.ws P.kids≤2 ^ 17
 wf:Form.ws F.kids≤2 ^ 17
section
variable {bs:List Bind} {lits:List Form} {P F:Form}
theorem mt_length (hS:MatS bs lits P F) {x f:Form} (hx:x∈P.kids) (hd:zC x=false) {h:List Hit} (hm:x.mt bs lits f=some h):h.length≤x.w:=by
 rw [mt_len ((hS.kid x hx).pat hd) hm];exact Form.vd_len lits x 0
theorem match1_tr (hS:MatS bs lits P F) {x f:Form} (hx:x∈P.kids) (hd:zC x=false) (hf:f∈F.kids) {acc:List Hit} (ha:acc.length≤2 ^ 20) :
  Tr (fun m=>zdb m x f bs lits acc) ((x.mt bs lits f).isSome,acc++(x.mt bs lits f).getD []):=by
 refine Tr.step (fun m=>by rw [zdb]) (Tr.bind (hS.ih x hx hd f hf) ?_)
 have hw:=Form.ws_mem hx
 have h1:=hS.wp
 refine Tr.chk (decide_eq_true ?_) Tr.val
 cases hm:x.mt bs lits f with
 | none=>simp [oR];omega
 | some h =>
   have:=mt_length hS hx hd hm
   simp [oR];omega
theorem mts_one {x f:Form} {xs fs:List Form} (hd:zC x=false) (hn:zdu xs=false):Form.mts bs lits (x::xs) (f::fs)=oapp (x.mt bs lits f) (Form.mts bs lits xs fs):=by
 rw [Form.mts_eq,hd,cond_false,hn,cond_false]
theorem oR_none {acc:List Hit} {b:Option (List Hit)}:oR (oacc acc (oapp none b))=([],false):=by cases b<;>rfl
theorem oR_some {acc h:List Hit} {b:Option (List Hit)}:oR (oacc acc (oapp (some h) b))=oR (oacc (acc++h) b):=by rw [oacc_oapp]
theorem oR_nil {acc:List Hit}:oR (oacc acc (some []))=(acc,true):=by simp [oR,oacc]
theorem mts_nil:Form.mts bs lits [] []=some []:=by rw [Form.mts];rfl
theorem match_l2_tr (hS:MatS bs lits P F) (hl:P.kids.length=F.kids.length):∀ (rest:List Form) (k:Nat) (acc:List Hit),P.kids.drop k=rest→k≤P.kids.length→(∀ x∈rest,zC x=false)→acc.length+Form.ws rest≤2 ^ 20 →
  Tr (fun m=>zcI m bs P lits F (k:Int) acc) (oR (oacc acc (Form.mts bs lits rest (F.kids.drop k))))
 | [],k,acc,hd,hk,hn,ha=>by
   have:k=P.kids.length:=by have:=congrArg List.length hd;rw [List.length_drop] at this;simp at this;omega
   subst this
   rw [hl,List.drop_length,mts_nil,oR_nil]
   refine Tr.step (fun m=>by rw [zcI,hl,zW,cond_false]) (Tr.step (fun m=>by rw [zfd]) Tr.val)
 | x::xs,k,acc,hd,hk,hn,ha=>by
   obtain ⟨hx,hd2,hlt⟩:=zg8 hd
   have hdx:=hn x (by simp)
   have hy:F.kids[k]?=some F.kids[k]:=List.getElem?_eq_getElem (by omega)
   have hdr:F.kids.drop k=F.kids[k]::F.kids.drop (k+1):=List.drop_eq_getElem_cons (by omega)
   rw [Form.ws] at ha
   refine Tr.step (fun m=>by rw [zcI,ltN hlt,cond_true,zG hx,Option.bind_some,zG hy,Option.bind_some]) ?_
   refine Tr.bind (match1_tr hS (List.mem_of_getElem? hx) hdx (List.mem_of_getElem? hy) (by omega)) ?_
   rw [hdr,mts_one hdx (nextD_no (fun z hz=>hn z (by simp [hz])))]
   cases hm:x.mt bs lits F.kids[k] with
   | none=>rw [oR_none];exact Tr.tt rfl Tr.val
   | some h =>
     rw [oR_some]
     have hw:=mt_length hS (List.mem_of_getElem? hx) hdx hm
     refine Tr.ff rfl (Tr.eq (fun m=>by rw [zbM];rfl) (match_l2_tr hS hl xs (k+1) (acc++h) hd2 hlt (fun z hz=>hn z (by simp [hz])) (by rw [List.length_append];omega)))
structure RowS (P F:Form) (xs:List Form) (pr dd:Form) (tail:List Form):Prop where
 eq:P.kids=xs++pr::dd::tail
 pre:∀ x∈xs,zC x=false
 row:zC pr=false
 dots:zC dd=true
 post:∀ x∈tail,zC x=false
 len:xs.length+tail.length≤F.kids.length
def RowS.many (F:Form) (xs tail:List Form):Nat:=F.kids.length-(xs.length+tail.length)
variable {xs tail:List Form} {pr dd:Form}
theorem RowS.plen (hR:RowS P F xs pr dd tail):P.kids.length=xs.length+2+tail.length:=by rw [hR.eq];simp;omega
theorem RowS.lens (hS:MatS bs lits P F) (hR:RowS P F xs pr dd tail):P.kids.length≤2 ^ 17∧F.kids.length≤2 ^ 17:=⟨Nat.le_trans (Form.ws_len _) hS.wp,Nat.le_trans (Form.ws_len _) hS.wf⟩
theorem RowS.at_pr (hR:RowS P F xs pr dd tail):P.kids[xs.length]?=some pr:=by rw [hR.eq];simp
theorem RowS.many_eq (hS:MatS bs lits P F) (hR:RowS P F xs pr dd tail):w64 ((F.kids.length:Int)-(w64 ((P.kids.length:Int)-2)))=((RowS.many F xs tail:Nat):Int):=by
 have h1:=RowS.lens hS hR
 have h2:=hR.plen
 have h3:=hR.len
 rw [zaI (n:=(P.kids.length:Int)-2) (by omega),zaI (by omega)]
 unfold RowS.many;omega
theorem RowS.row_eq (hS:MatS bs lits P F) (hR:RowS P F xs pr dd tail):w64 ((((xs.length+1:Nat):Int))-1)=((xs.length:Nat):Int):=by
 have h1:=RowS.lens hS hR
 have h2:=hR.plen
 rw [zaI (by omega)];omega
theorem match_l10_tr (hS:MatS bs lits P F) (hR:RowS P F xs pr dd tail):∀ (rest:List Form) (j:Nat) (acc:List Hit),tail.drop j=rest→j≤tail.length→acc.length+Form.ws rest≤2 ^ 20 →
  Tr (fun m=>zcn m bs P lits F ((xs.length+1:Nat):Int) ((xs.length+2+j:Nat):Int) acc) (oR (oacc acc (Form.mts bs lits rest (F.kids.drop (xs.length+RowS.many F xs tail+j)))))
 | [],j,acc,hd,hj,ha=>by
   have:j=tail.length:=by have:=congrArg List.length hd;rw [List.length_drop] at this;simp at this;omega
   subst this
   have h2:=hR.plen
   have h3:=hR.len
   have e:xs.length+RowS.many F xs tail+tail.length=F.kids.length:=by unfold RowS.many;omega
   rw [e,List.drop_length,mts_nil,oR_nil]
   exact Tr.step (fun m=>by rw [zcn,← h2,zW,cond_false]) Tr.val
 | x::rest,j,acc,hd,hj,ha=>by
   obtain ⟨hx0,hd2,hlt⟩:=zg8 hd
   have h1:=RowS.lens hS hR
   have h2:=hR.plen
   have h3:=hR.len
   have hm:=RowS.many_eq hS hR
   have hr:=RowS.row_eq hS hR
   have hx:P.kids[xs.length+2+j]?=some x:=by
    rw [hR.eq,List.getElem?_append_right (by omega)]
    rw [show xs.length+2+j-xs.length=j+1+1 by omega,List.getElem?_cons_succ,List.getElem?_cons_succ];exact hx0
   have hdx:=hR.post x (List.mem_of_getElem? hx0)
   have e:xs.length+RowS.many F xs tail+tail.length=F.kids.length:=by unfold RowS.many;omega
   generalize hM:RowS.many F xs tail=M at *
   have hq:xs.length+M+j < F.kids.length:=by omega
   have hy:F.kids[xs.length+M+j]?=some F.kids[xs.length+M+j]:=List.getElem?_eq_getElem hq
   have hdr:F.kids.drop (xs.length+M+j)=F.kids[xs.length+M+j]::F.kids.drop (xs.length+M+j+1):=List.drop_eq_getElem_cons hq
   have hidx:w64 ((w64 ((w64 ((w64 ((w64 (((xs.length+1:Nat):Int)-1))+(w64 ((F.kids.length:Int)-(w64 ((P.kids.length:Int)-2))))))+((xs.length+2+j:Nat):Int)))-((xs.length+1:Nat):Int)))-1)=((xs.length+M+j:Nat):Int):=by
    rw [hm,hr,zaI (n:=((xs.length:Nat):Int)+(M:Int)) (by omega),zaI (n:=((xs.length:Nat):Int)+(M:Int)+((xs.length+2+j:Nat):Int)) (by omega),zaI (n:=((xs.length:Nat):Int)+(M:Int)+((xs.length+2+j:Nat):Int)-((xs.length+1:Nat):Int)) (by omega),zaI (by omega)]
    omega
   rw [Form.ws] at ha
   refine Tr.step (fun m=>by rw [zcn,ltN (show xs.length+2+j < P.kids.length by omega),cond_true,zG hx,Option.bind_some,hidx,zG hy,Option.bind_some]) ?_
   refine Tr.bind (match1_tr hS (List.mem_of_getElem? hx) hdx (List.mem_of_getElem? hy) (by omega)) ?_
   have hnd:zdu rest=false:=nextD_no (fun z hz=>hR.post z (by rw [← hd2] at hz;exact List.mem_of_mem_drop hz))
   rw [hdr,mts_one hdx hnd]
   cases hmt:x.mt bs lits F.kids[xs.length+M+j] with
   | none=>rw [oR_none];exact Tr.tt rfl Tr.val
   | some h =>
     rw [oR_some]
     have hw:=mt_length hS (List.mem_of_getElem? hx) hdx hmt
     have:=match_l10_tr hS hR rest (j+1) (acc++h) hd2 hlt (by rw [List.length_append];omega)
     rw [hM] at this
     exact Tr.ff rfl (Tr.eq (fun m=>by rw [zbM];rfl) this)
end
end Go.Abs
end
section
set_option linter.unusedVariables false
set_option linter.unusedSimpArgs false
namespace Go.Abs
section
variable {bs:List Bind} {lits:List Form} {P F:Form} {xs tail:List Form} {pr dd:Form}
theorem cntD_all:∀ {l:List Form},(∀ x∈l,zC x=false)→cntD l=0
 | [],_=>rfl
 | y::ys,h=>by rw [cntD,h y (by simp),cond_false,cntD_all (fun x hx=>h x (by simp [hx]))]
theorem cntD_app:∀ (a b:List Form),cntD (a++b)=cntD a+cntD b
 | [],b=>by simp [cntD]
 | x::a,b=>by rw [List.cons_append,cntD,cntD,cntD_app a b];omega
theorem set_end {α:Type} (l:List α) (z v:α):(l++[z]).set (l.length:Int).toNat v=l++[v]:=by
 rw [Int.toNat_natCast,List.set_append_right _ _ (Nat.le_refl _),Nat.sub_self];rfl
theorem idx_last {α:Type} (l:List α) (z:α):idx (l++[z]) (l.length:Int)=some z:=zG (by simp)
theorem match_l9_tr (v11:Int) (g34:List Hit) (v49:List Form) (g50:Int) (vs:List (Form × Int)) (rows:List (List Hit)) (inner:List Hit) (b:Bool) (hi:inner.length=vs.length) (hr:rows.length≤2 ^ 20) (hv:vs.length≤2 ^ 20) {v:List Hit × Bool}
  (hK:Tr (fun m=>zbV m bs P lits F v11 g34 v49 (w64 (g50+1)) (rowH 0 vs (rows++[inner]))) v) (g51:List Hit) (hg:g51.length=vs.length) :
  Tr (fun m=>zce m bs P lits F v11 g34 v49 g50 g51 (inner,b) 0 (rowH 0 vs rows)) v:=by
 have key:=zac vs (fun k zs=>Tr (fun m=>zce m bs P lits F v11 g34 v49 g50 g51 (inner,b) (k:Int) ((rowH 0 vs (rows++[inner])).take k++(rowH 0 vs rows).drop k)) v) ?_ ?_ 0 (Nat.zero_le _)
 ·simpa using key
 ·have e1:(rowH 0 vs (rows++[inner])).take vs.length=rowH 0 vs (rows++[inner]):=List.take_of_length_le (by rw [zf0];exact Nat.le_refl _)
  have e2:(rowH 0 vs rows).drop vs.length=[]:=List.drop_of_length_le (by rw [zf0];exact Nat.le_refl _)
  rw [e1,e2,List.append_nil]
  exact Tr.step (fun m=>by rw [zce,hg,zW,cond_false]) hK
 ·intro k x zs hk hx hd ih
  have hl1:(rowH 0 vs (rows++[inner])).length=vs.length:=zf0 _ _ _
  have hl2:(rowH 0 vs rows).length=vs.length:=zf0 _ _ _
  have ht:((rowH 0 vs (rows++[inner])).take k).length=k:=by rw [List.length_take,hl1];omega
  have g1:=rowH_get (k:=0) (rows:=rows) hx
  have g2:=rowH_get (k:=0) (rows:=rows++[inner]) hx
  rw [Nat.zero_add] at g1 g2
  have hget:((rowH 0 vs (rows++[inner])).take k++(rowH 0 vs rows).drop k)[k]?=some (Hit.mk x.1 (x.2+1) zcr (rows.map fun r=>r.getD k hit0)):=by
   rw [List.getElem?_append_right (by omega),ht,Nat.sub_self,List.getElem?_drop,Nat.add_zero];exact g1
  have hin:inner[k]?=some (inner.getD k hit0):=by
   have:k < inner.length:=by omega
   rw [List.getD_eq_getElem?_getD,List.getElem?_eq_getElem this];rfl
  have hset:((rowH 0 vs (rows++[inner])).take k++(rowH 0 vs rows).drop k).set (k:Int).toNat (Hit.mk x.1 (x.2+1) zcr ((rows.map fun r=>r.getD k hit0)++[inner.getD k hit0]))=(rowH 0 vs (rows++[inner])).take (k+1)++(rowH 0 vs rows).drop (k+1):=by
   have h3:(rowH 0 vs rows).drop k=Hit.mk x.1 (x.2+1) zcr (rows.map fun r=>r.getD k hit0)::(rowH 0 vs rows).drop (k+1):=drop_get g1
   rw [Int.toNat_natCast,List.set_append_right _ _ (by omega),ht,Nat.sub_self,h3,List.set_cons_zero,List.take_add_one,g2,List.append_assoc]
   simp
  refine Tr.step (fun m=>by rw [zce,hg,ltN hk,cond_true,zG hget,Option.bind_some,zG hin,Option.bind_some]) ?_
  refine Tr.chk (decide_eq_true (by simp [Hit.many];omega)) ?_
  refine Tr.eq (fun m=>by rw [idx_last,Option.bind_some,Option.bind_some,zaI (by omega),zbM,set_end]) ?_
  simp only [Hit.name,Hit.depth,Hit.one,Hit.many]
  rw [hset];exact ih
theorem match_l8_tr (hS:MatS bs lits P F) (hR:RowS P F xs pr dd tail) (g34:List Hit) (v49:List Form) (hv:∀ f∈v49,f∈F.kids) (hvl:v49.length≤F.kids.length) (J:List Hit→List Hit × Bool)
  (hJ:∀ rows,rows.length=v49.length→(∀ r∈rows,r.length=(pr.vd lits 0).length)→Tr (fun m=>zdn m bs P lits F ((xs.length+1:Nat):Int) g34 (rowH 0 (pr.vd lits 0) rows)) (J (rowH 0 (pr.vd lits 0) rows))) :
  Tr (fun m=>zbV m bs P lits F ((xs.length+1:Nat):Int) g34 v49 0 (rowH 0 (pr.vd lits 0) [])) (match allM (fun f=>pr.mt bs lits f) v49 with
   | none=>([],false)
   | some rows=>J (rowH 0 (pr.vd lits 0) rows)):=by
 have h1:=RowS.lens hS hR
 have h2:=hR.plen
 have hpm:=List.mem_of_getElem? hR.at_pr
 have hpp:PatS pr:=(hS.kid pr hpm).pat hR.row
 have hpw:=Form.ws_mem hpm
 have hwp:=hS.wp
 have hvd:=Form.vd_len lits pr 0
 have key:=zac v49 (fun k zs=>∀ rows:List (List Hit),rows.length=k→(∀ r∈rows,r.length=(pr.vd lits 0).length)→Tr (fun m=>zbV m bs P lits F ((xs.length+1:Nat):Int) g34 v49 (k:Int) (rowH 0 (pr.vd lits 0) rows)) (match allM (fun f=>pr.mt bs lits f) zs with
   | none=>([],false)
   | some ys=>J (rowH 0 (pr.vd lits 0) (rows++ys)))) ?_ ?_ 0 (Nat.zero_le _) [] rfl (fun r hr=>by cases hr)
 ·simpa using key
 ·intro rows hr hl
  rw [allM]
  simp only [List.append_nil]
  exact Tr.step (fun m=>by rw [zbV,zW,cond_false]) (hJ rows hr hl)
 ·intro k x zs hk hx hd ih rows hr hl
  refine Tr.step (fun m=>by rw [zbV,ltN hk,cond_true,zG hx,Option.bind_some,RowS.row_eq hS hR,zG hR.at_pr,Option.bind_some]) ?_
  refine Tr.bind (hS.ih pr hpm hR.row x (hv x (List.mem_of_getElem? hx))) ?_
  rw [allM]
  cases hm:pr.mt bs lits x with
  | none=>exact Tr.tt rfl Tr.val
  | some h =>
    have hlen:=mt_len hpp hm
    refine Tr.ff rfl ?_
    refine Tr.eq (fun m=>rfl) (match_l9_tr (bs:=bs) (lits:=lits) (P:=P) (F:=F) ((xs.length+1:Nat):Int) g34 v49 (k:Int) (pr.vd lits 0) rows h true hlen (by omega) (by omega) ?_ _ (zf0 _ _ _))
    refine Tr.eq (fun m=>by rw [zaI (by omega),zbM]) ?_
    have:=ih (rows++[h]) (by simp [hr]) (fun r hr'=>by
     rcases List.mem_append.1 hr' with hr' | hr'
     ·exact hl r hr'
     ·rw [List.mem_singleton.1 hr'];exact hlen)
    cases ha:allM (fun f=>pr.mt bs lits f) zs with
    | none=>rw [ha] at this;exact this
    | some ys =>
      rw [ha] at this
      simp only [List.append_assoc,List.singleton_append] at this
      exact this
theorem match_l6_tr (v11:Int) (g34:List Hit) (vs:List (Form × Int)) (hw:∀ v∈vs,v.1.w≤2 ^ 30) (h0:∀ v∈vs,0≤v.2∧v.2≤2 ^ 30) (hl:vs.length≤2 ^ 20) {r:List Hit × Bool}
  (hK:Tr (fun m=>zdW m bs P lits F v11 g34 (rowH 0 vs [])) r):Tr (fun m=>zcf m bs P lits F v11 g34 (vs.map (·.1),vs.map (·.2)) ([]:List Hit) 0) r:=by
 have key:=zac vs (fun k zs=>∀ g:List Hit,g.length=k→g++rowH k zs []=rowH 0 vs []→Tr (fun m=>zcf m bs P lits F v11 g34 (vs.map (·.1),vs.map (·.2)) g (k:Int)) r) ?_ ?_ 0 (Nat.zero_le _) [] rfl (by rw [List.nil_append,List.drop_zero])
 ·exact key
 ·intro g hg he
  rw [rowH,List.append_nil] at he
  rw [he]
  exact Tr.step (fun m=>by rw [zcf,List.length_map,zW,cond_false]) hK
 ·intro k v zs hk hx hd ih g hg he
  have hx1:(vs.map (·.1))[k]?=some v.1:=by rw [List.getElem?_map,hx];rfl
  have hx2:(vs.map (·.2))[k]?=some v.2:=by rw [List.getElem?_map,hx];rfl
  have hm:=List.mem_of_getElem? hx
  have hvw:=hw v hm
  have V0:=h0 v hm
  refine Tr.step (fun m=>by rw [zcf,List.length_map,ltN hk,cond_true,zG hx1,Option.bind_some]) (Tr.bind (zgB v.1 (by omega)) ?_)
  refine Tr.eq (fun m=>by rw [zG hx2,Option.bind_some,zaI (n:=v.2+1) (by omega),zbM]) (Tr.chk (decide_eq_true (by simp;omega)) ?_)
  refine ih (g++[Hit.mk v.1 (v.2+1) zcr []]) (by simp [hg]) ?_
  rw [rowH] at he
  rw [List.append_assoc];exact he
theorem mts_row (hS:MatS bs lits P F) (hR:RowS P F xs pr dd tail):Form.mts bs lits (pr::dd::tail) (F.kids.drop xs.length)=match allM (fun f=>pr.mt bs lits f) ((F.kids.drop xs.length).take (RowS.many F xs tail)) with
  | none=>none
  | some rows=>oapp (some (rowH 0 (pr.vd lits 0) rows)) (Form.mts bs lits tail (F.kids.drop (xs.length+RowS.many F xs tail))):=by
 have h3:=hR.len
 have hl:(F.kids.drop xs.length).length=F.kids.length-xs.length:=List.length_drop
 have hN:(F.kids.drop xs.length).length+1-(dd::tail).length=RowS.many F xs tail:=by rw [hl,List.length_cons];unfold RowS.many;omega
 rw [Form.mts_eq,hR.row,cond_false,show zdu (dd::tail)=zC dd from rfl,hR.dots,cond_true,decide_eq_false (by rw [hl,List.length_cons];omega),cond_false,hN]
 cases allM (fun f=>pr.mt bs lits f) ((F.kids.drop xs.length).take (RowS.many F xs tail)) with
 | none=>rfl
 | some rows=>simp only;rw [Form.mts_eq bs lits dd,hR.dots,cond_true,List.drop_drop]
theorem match_j3_tr (hS:MatS bs lits P F) (hR:RowS P F xs pr dd tail) (acc:List Hit) (ha:acc.length≤2 ^ 18):Tr (fun m=>zdX m bs P lits F ((xs.length+1:Nat):Int) acc) (oR (oacc acc (Form.mts bs lits (pr::dd::tail) (F.kids.drop xs.length)))):=by
 have h1:=RowS.lens hS hR
 have h2:=hR.plen
 have h3:=hR.len
 have hpm:=List.mem_of_getElem? hR.at_pr
 have hpp:PatS pr:=(hS.kid pr hpm).pat hR.row
 have hpw:=Form.ws_mem hpm
 have hwp:=hS.wp
 have hvd:=Form.vd_len lits pr 0
 have hhi:=Form.vd_hi lits pr 0
 have hnn:=Form.vd_nn lits pr 0
 refine Tr.step (fun m=>by rw [zdX,RowS.row_eq hS hR,zG hR.at_pr,Option.bind_some]) (Tr.bind (varsOf_tr pr lits (by omega)) ?_)
 have hvw:∀ v∈pr.vd lits 0,v.1.w≤2 ^ 30:=fun v hv=>by
  have hm:v.1∈pr.vs lits:=by rw [← Form.vd_fst lits pr 0];exact List.mem_map.2 ⟨v,hv,rfl⟩
  have:=Form.vs_w lits pr v.1 hm;omega
 refine match_l6_tr (bs:=bs) (lits:=lits) (P:=P) (F:=F) _ acc (pr.vd lits 0) hvw (fun v hv=>⟨hnn v hv,by have:=hhi v hv;omega⟩) (by omega) ?_
 have hsub:sub F.kids ((xs.length:Nat):Int) ((xs.length+RowS.many F xs tail:Nat):Int)=some ((F.kids.drop xs.length).take (RowS.many F xs tail)):=by
  have hle:xs.length+RowS.many F xs tail≤F.kids.length:=by unfold RowS.many;omega
  unfold sub
  rw [decide_eq_true (by omega),decide_eq_true (by omega),decide_eq_true (by omega)]
  simp only [Bool.and_self,cond_true,Int.toNat_natCast,Option.some.injEq]
  rw [List.take_drop]
 have hbnd:RowS.many F xs tail≤F.kids.length:=by unfold RowS.many;omega
 refine Tr.step (fun m=>by rw [zdW,RowS.row_eq hS hR,RowS.many_eq hS hR,zaI (n:=((xs.length:Nat):Int)+((RowS.many F xs tail:Nat):Int)) (by omega),show ((xs.length:Nat):Int)+((RowS.many F xs tail:Nat):Int)=((xs.length+RowS.many F xs tail:Nat):Int) by simp,hsub,Option.bind_some]) ?_
 have hj7:∀ rows:List (List Hit),Tr (fun m=>zdn m bs P lits F ((xs.length+1:Nat):Int) acc (rowH 0 (pr.vd lits 0) rows)) (oR (oacc (acc++rowH 0 (pr.vd lits 0) rows) (Form.mts bs lits tail (F.kids.drop (xs.length+RowS.many F xs tail))))):=fun rows=>by
  have hrl:=zf0 (pr.vd lits 0) 0 rows
  refine Tr.step (fun m=>by rw [zdn]) (Tr.chk (decide_eq_true (by omega)) ?_)
  have htw:Form.ws tail≤Form.ws P.kids:=by
   rw [hR.eq,Form.ws_append,Form.ws,Form.ws];omega
  have:=match_l10_tr hS hR tail 0 (acc++rowH 0 (pr.vd lits 0) rows) (by rw [List.drop_zero]) (Nat.zero_le _) (by rw [List.length_append,hrl];omega)
  refine Tr.eq (fun m=>by rw [zaI (by omega),zbM]) ?_
  exact this
 have h8:=match_l8_tr hS hR acc ((F.kids.drop xs.length).take (RowS.many F xs tail)) (fun f hf=>List.mem_of_mem_drop (List.mem_of_mem_take hf)) (by rw [List.length_take,List.length_drop];omega)
  (fun hits=>oR (oacc (acc++hits) (Form.mts bs lits tail (F.kids.drop (xs.length+RowS.many F xs tail))))) (fun rows _ _=>hj7 rows)
 rw [mts_row hS hR]
 cases ha:allM (fun f=>pr.mt bs lits f) ((F.kids.drop xs.length).take (RowS.many F xs tail)) with
 | none=>rw [ha] at h8;exact h8
 | some rows=>rw [ha] at h8;simp only;rw [oR_some];exact h8
theorem match_l4_tr (hS:MatS bs lits P F) (hR:RowS P F xs pr dd tail):∀ (rest:List Form) (k:Nat) (acc:List Hit),xs.drop k=rest→k≤xs.length→acc.length+Form.ws rest≤2 ^ 18 →
  Tr (fun m=>zcH m bs P lits F ((xs.length+1:Nat):Int) (k:Int) acc) (oR (oacc acc (Form.mts bs lits (rest++pr::dd::tail) (F.kids.drop k))))
 | [],k,acc,hd,hk,ha=>by
   have:k=xs.length:=by have:=congrArg List.length hd;rw [List.length_drop] at this;simp at this;omega
   subst this
   rw [List.nil_append]
   exact Tr.step (fun m=>by rw [zcH,RowS.row_eq hS hR,zW,cond_false]) (match_j3_tr hS hR acc (by omega))
 | x::rest,k,acc,hd,hk,ha=>by
   obtain ⟨hx0,hd2,hlt⟩:=zg8 hd
   have h1:=RowS.lens hS hR
   have h2:=hR.plen
   have h3:=hR.len
   have hx:P.kids[k]?=some x:=by rw [hR.eq,List.getElem?_append_left hlt];exact hx0
   have hdx:=hR.pre x (List.mem_of_getElem? hx0)
   have hy:F.kids[k]?=some F.kids[k]:=List.getElem?_eq_getElem (by omega)
   have hdr:F.kids.drop k=F.kids[k]::F.kids.drop (k+1):=List.drop_eq_getElem_cons (by omega)
   have hnd:zdu (rest++pr::dd::tail)=false:=by
    cases rest with
    | nil=>exact hR.row
    | cons z zs=>exact hR.pre z (by have:z∈xs.drop (k+1):=by rw [hd2];simp
                                    exact List.mem_of_mem_drop this)
   rw [Form.ws] at ha
   refine Tr.step (fun m=>by rw [zcH,RowS.row_eq hS hR,ltN hlt,cond_true,zG hx,Option.bind_some,zG hy,Option.bind_some]) ?_
   refine Tr.bind (match1_tr hS (List.mem_of_getElem? hx) hdx (List.mem_of_getElem? hy) (by omega)) ?_
   rw [hdr,List.cons_append,mts_one hdx hnd]
   cases hm:x.mt bs lits F.kids[k] with
   | none=>rw [oR_none];exact Tr.tt rfl Tr.val
   | some h =>
     rw [oR_some]
     have hw:=mt_length hS (List.mem_of_getElem? hx) hdx hm
     exact Tr.ff rfl (Tr.eq (fun m=>by rw [zaI (by omega),zbM];rfl) (match_l4_tr hS hR rest (k+1) (acc++h) hd2 hlt (by rw [List.length_append];omega)))
end
theorem implMatch_n (bs:List Bind) (lits:List Form) (hbs:bs.length≤2 ^ 36) (hbf:∀ b∈bs,b.fit) (hbv:bvOk bs=true):∀ (n:Nat) (p:Form),p.w≤n→PatS p→p.fit→p.w≤2 ^ 17→∀ f:Form,f.valid=true→f.fit→f.w≤2 ^ 17 →
  Tr (fun m=>zcJ m bs p lits f) (oR (p.mt bs lits f)):=by
 intro n
 induction n with
 | zero=>intro p h;have:=p.w_kids;omega
 | succ n ih =>
   intro p hp hs hpf hpb f hfv hff hfb
   have hw:=p.w_kids
   have hfw:=f.w_kids
   obtain ⟨q1,q2,q3,q4,q5⟩:=hs.parts
   refine Tr.step (fun m=>by rw [zcJ]) ?_
   rw [Form.mt_eq]
   by_cases h1:p.kind=1
   ·rw [decide_eq_true h1,cond_true]
    refine Tr.tt rfl ?_
    by_cases h2:p.name=zd0
    ·rw [decide_eq_true h2,cond_true]
     exact Tr.tt rfl Tr.val
    ·rw [decide_eq_false h2,cond_false]
     refine Tr.ff rfl (Tr.bind (isIn_tr lits p) ?_)
     cases inF lits p with
     | true =>
       refine Tr.tt rfl (Tr.bind (sameRef_tr bs p f hbs hbf hpf hff) ?_)
       rw [cond_true,hbv,Bool.true_and]
       have hnp:isNm p=true:=by
        unfold isNm;rw [decide_eq_true h1,Bool.true_and]
        obtain ⟨d,hd⟩:=hs.ok
        exact (isOk_name hd h1).1
       have hnf:isNm f=decide (f.kind=1):=by unfold isNm;rw [hfv,Bool.and_true]
       rw [hnp,Bool.true_and,hnf]
       cases decide (f.kind=1)&&refS bs p f<;>exact Tr.val
     | false =>
       refine Tr.ff rfl (Tr.bind (zgB p (by omega)) (Tr.bind (zgB f (by omega)) ?_))
       rw [cond_false];exact Tr.val
   ·rw [decide_eq_false h1,cond_false]
    refine Tr.ff rfl ?_
    by_cases h2:p.kind=2
    ·rw [decide_eq_true h2,cond_true]
     refine Tr.tt rfl (Tr.bind (zbZ p f) ?_)
     cases same p f<;>exact Tr.val
    ·rw [decide_eq_false h2,cond_false]
     refine Tr.ff rfl ?_
     by_cases h3:f.kind≠3
     ·rw [decide_eq_true h3,cond_true];exact Tr.tt rfl Tr.val
     ·rw [decide_eq_false h3,cond_false]
      refine Tr.ff rfl (Tr.bind (dotsAt_tr p.kids) ?_)
      have hl1:=Form.ws_len p.kids
      have hl2:=Form.ws_len f.kids
      have hS:MatS bs lits p f:=⟨q4,fun x hx hd g hg=>ih x (by have:=Form.ws_mem hx;omega) ((q4 x hx).pat hd) (Form.fits_mem hpf.parts.2.2.2 hx) (by have:=Form.ws_mem hx;omega) g (valid_kid hfv hg) (Form.fits_mem hff.parts.2.2.2 hg) (by have:=Form.ws_mem hg;omega),by omega,by omega⟩
      have hacc:∀ o:Option (List Hit),oacc [] o=o:=fun o=>by cases o<;>simp [oacc]
      rcases cntD_split q3 with hno | ⟨ys,dd,tail,he,e1,e2,e3⟩
      ·rw [fnd_no hno]
       refine Tr.tt rfl ?_
       by_cases hlen:p.kids.length=f.kids.length
       ·refine Tr.ff (lenE hlen) ?_
        have:=match_l2_tr hS hlen p.kids 0 [] (by rw [List.drop_zero]) (Nat.zero_le _) hno (by simp;omega)
        rw [hacc,List.drop_zero] at this
        exact this
       ·refine Tr.tt (decide_eq_true (by omega)) ?_
        have hmn:Form.mts bs lits p.kids f.kids=none:=by
         cases hm:Form.mts bs lits p.kids f.kids with
         | none=>rfl
         | some h =>
           exact absurd ((mts_len hm).1 (cntD_all hno)) hlen
        rw [hmn];exact Tr.val
      ·obtain ⟨zs,pr,hz⟩:∃ zs pr,ys=zs++[pr]:=by
        rcases List.eq_nil_or_concat ys with h0 | ⟨zs,pr,h0⟩
        ·subst h0
         rw [he,List.nil_append,Form.kP,e2] at q2
         simp at q2
        ·exact ⟨zs,pr,by simpa using h0⟩
       subst hz
       have hat:fnd zC p.kids 0=((zs.length+1:Nat):Int):=by
        rw [he,fnd_pre e1 e2];simp
       rw [hat]
       have hpk:p.kids=zs++pr::dd::tail:=by rw [he,List.append_assoc];rfl
       have hplen:p.kids.length=zs.length+2+tail.length:=by rw [hpk];simp;omega
       refine Tr.ff (decide_eq_false (by omega)) ?_
       by_cases hlen:zs.length+tail.length≤f.kids.length
       ·have hR:RowS p f zs pr dd tail:=⟨hpk,fun x hx=>e1 x (by simp [hx]),e1 pr (by simp),e2,e3,hlen⟩
        refine Tr.ff (decide_eq_false (by rw [RowS.many_eq hS hR];omega)) ?_
        have hzw:Form.ws zs≤Form.ws p.kids:=by rw [hpk,Form.ws_append];omega
        have:=match_l4_tr hS hR zs 0 [] (by rw [List.drop_zero]) (Nat.zero_le _) (by simp;omega)
        rw [hacc,List.drop_zero,← hpk] at this
        exact this
       ·refine Tr.tt (decide_eq_true (by rw [zaI (n:=(p.kids.length:Int)-2) (by omega),zaI (by omega)];omega)) ?_
        have hmn:Form.mts bs lits p.kids f.kids=none:=by
         cases hm:Form.mts bs lits p.kids f.kids with
         | none=>rfl
         | some h =>
           have hc:cntD p.kids=1:=by
            rw [he,cntD_app,cntD_all e1,cntD,e2,cntD_all e3];rfl
           have hnd:zdu p.kids=false:=by
            rw [hpk]
            cases zs with
            | nil=>exact e1 pr (by simp)
            | cons z zs=>exact e1 z (by simp)
           have:=(mts_len hm).2.2 hc hnd
           omega
        rw [hmn];exact Tr.val
end Go.Abs
end
section
set_option linter.unusedVariables false
set_option linter.unusedSimpArgs false
namespace Go.Abs
theorem FormSize_n:∀ (n:Nat) (f:Form),f.w≤n→f.w≤2 ^ 40→Tr (fun m=>zcM m f) (f.cnt:Int)∧f.cnt≤f.w:=by
 intro n
 induction n with
 | zero=>intro f h;have:=f.w_kids;omega
 | succ n ih =>
   intro f hn hb
   have hw:=f.w_kids
   have hc:f.cnt=1+Form.cnts f.kids:=by obtain ⟨a,b,c,d,e⟩:=f;rw [Form.cnt];rfl
   have hle:Form.cnts f.kids≤Form.ws f.kids:=by
    have:∀ l:List Form,(∀ x∈l,x∈f.kids)→Form.cnts l≤Form.ws l:=by
     intro l
     induction l with
     | nil=>intro _;rw [Form.cnts];omega
     | cons x l ihl =>
       intro hx
       have h1:=ihl (fun y hy=>hx y (by simp [hy]))
       have h2:=Form.ws_mem (hx x (by simp))
       have h3:=(ih x (by omega) (by omega)).2
       rw [Form.cnts,Form.ws];omega
    exact this _ (fun x hx=>hx)
   refine ⟨?_,by omega⟩
   rw [hc]
   refine Tr.step (fun m=>by rw [zcM]) ?_
   have key:=zac f.kids (fun k zs=>∀ g:Nat,g+Form.cnts zs=1+Form.cnts f.kids→Tr (fun m=>zbT m f (g:Int) (k:Int)) ((1+Form.cnts f.kids:Nat):Int)) ?_ ?_ 0 (Nat.zero_le _) 1 (by rw [List.drop_zero])
   ·exact key
   ·intro g hg
    rw [Form.cnts,Nat.add_zero] at hg
    rw [← hg]
    exact Tr.step (fun m=>by rw [zbT,zW,cond_false]) Tr.val
   ·intro k x zs hk hx hd ihk g hg
    have hm:=List.mem_of_getElem? hx
    have h2:=Form.ws_mem hm
    have h3:=ih x (by omega) (by omega)
    rw [Form.cnts] at hg
    refine Tr.step (fun m=>by rw [zbT,ltN hk,cond_true,zG hx,Option.bind_some]) (Tr.bind h3.1 ?_)
    refine Tr.eq (fun m=>by rw [zaI (by omega),zbM,show (g:Int)+(x.cnt:Int)=((g+x.cnt:Nat):Int) by simp]) (ihk (g+x.cnt) (by omega))
theorem FormSize_tr (f:Form) (h:f.w≤2 ^ 40):Tr (fun m=>zcM m f) (f.cnt:Int):=(FormSize_n _ f (Nat.le_refl _) h).1
end Go.Abs
end
section
set_option linter.unusedVariables false
set_option linter.unusedSimpArgs false
namespace Go.Abs
theorem PatS.kind {p:Form} (h:PatS p) (h1:¬ p.kind=1) (h2:¬ p.kind=2):p.kind=3:=by
 obtain ⟨d,hd⟩:=h.ok
 rw [Form.isOk_eq] at hd
 cases hd0:decide (d=0) with
 | true=>rw [hd0] at hd;cases hd
 | false =>
   rw [hd0,cond_false,decide_eq_false h1,cond_false,decide_eq_false h2,cond_false,Bool.and_eq_true,decide_eq_true_eq] at hd
   exact hd.1
theorem cnt_eq (f:Form):f.cnt=1+Form.cnts f.kids:=by obtain ⟨a,b,c,d,e⟩:=f;rw [Form.cnt];rfl
end Go.Abs
end
section
set_option linter.unusedVariables false
set_option linter.unusedSimpArgs false
namespace Go.Abs
theorem isOk_w:∀ (n:Nat) (f:Form),f.w≤n→∀ d,f.isOk d=true→f.w+1≤26*f.cnt:=by
 intro n
 induction n with
 | zero=>intro f h;have:=f.w_kids;omega
 | succ n ih =>
   intro f hn d hd
   have hw:=f.w_kids
   have hc:=cnt_eq f
   obtain ⟨k1,k2⟩:=zfL hd
   have hsc:f.scopes.length≤24:=by
    rw [Form.isOk_eq] at hd
    cases hd0:decide (d=0) with
    | true=>rw [hd0] at hd;cases hd
    | false =>
    rw [hd0,cond_false] at hd
    by_cases h1:f.kind=1
    ·rw [decide_eq_true h1,cond_true] at hd
     unfold scOk at hd
     simp only [Bool.and_eq_true,decide_eq_true_eq] at hd
     omega
    ·rw [decide_eq_false h1,cond_false] at hd
     by_cases h2:f.kind=2
     ·rw [decide_eq_true h2,cond_true] at hd
      simp only [Bool.and_eq_true,decide_eq_true_eq] at hd
      omega
     ·rw [decide_eq_false h2,cond_false] at hd
      simp only [Bool.and_eq_true,decide_eq_true_eq] at hd
      omega
   have hk:Form.ws f.kids≤26*Form.cnts f.kids:=by
    have:∀ l:List Form,(∀ x∈l,x∈f.kids)→Form.ws l≤26*Form.cnts l:=by
     intro l
     induction l with
     | nil=>intro _;rw [Form.ws];omega
     | cons x l ihl =>
       intro hx
       have h1:=ihl (fun y hy=>hx y (by simp [hy]))
       have hm:=hx x (by simp)
       have h2:=Form.ws_mem hm
       have h3:=ih x (by omega) _ (k2 x hm)
       rw [Form.cnts,Form.ws];omega
    exact this _ (fun x hx=>hx)
   omega
theorem valid_w {f:Form} (h:f.valid=true):f.w≤10400:=by
 unfold Form.valid at h
 rw [Bool.and_eq_true,decide_eq_true_eq] at h
 have:=isOk_w _ f (Nat.le_refl _) 40 h.1
 omega
theorem patOk_w {p:Form} {lits:List Form} (h:patOk p lits=true):p.w≤10400:=by
 unfold patOk at h
 rw [Bool.and_eq_true] at h
 exact valid_w h.1
def fstR {α:Type} (D:α→Bool) (l:List α):Int × Bool:=bif decide (0≤fnd D l 0) then (fnd D l 0,true) else (0,false)
theorem loop_first {α β:Type} {xs:List α} {D:α→Bool} {L:Nat→Int→Option (Int × Bool)} {E:Nat→α→Option β} {B:β→Bool}
  (h0:∀ m k,L (m+1) k=bif decide (k < (xs.length:Int)) then (idx xs k).bind fun a=>(E m a).bind fun v=>bif B v then some (k,true) else L m (k+1) else some (0,false))
  (hE:∀ a∈xs,∃ v,Tr (fun m=>E m a) v∧B v=D a):Tr (fun m=>L m 0) (fstR D xs):=by
 have key:=zac xs (fun k zs=>Tr (fun m=>L m (k:Int)) (bif decide (0≤fnd D zs k) then (fnd D zs k,true) else (0,false))) ?_ ?_ 0 (Nat.zero_le _)
 ·exact key
 ·exact Tr.step (fun m=>by rw [h0,zW,cond_false];rfl) Tr.val
 ·intro k x zs hk hx hd ih
  obtain ⟨v,hv,hb⟩:=hE x (List.mem_of_getElem? hx)
  refine Tr.step (fun m=>by rw [h0,ltN hk,cond_true,zG hx,Option.bind_some,zbM]) (Tr.bind hv ?_)
  rw [hb,fnd]
  cases hD:D x with
  | true=>exact Tr.tt rfl (by rw [cond_true,decide_eq_true (by omega),cond_true];exact Tr.val)
  | false=>exact Tr.ff rfl (by rw [cond_false];exact ih)
theorem fstR_cases {α:Type} (D:α→Bool) (l:List α):(fstR D l=(0,false)∧∀ x∈l,D x=false)∨∃ (i:Nat) (x:α),fstR D l=((i:Int),true)∧l[i]?=some x∧D x=true∧∀ y∈l.take i,D y=false:=by
 unfold fstR
 rcases fnd_at (D:=D) (l:=l) (k:=0) with ⟨h1,h2⟩ | ⟨i,x,h1,h2,h3,h4⟩
 ·rw [h1];exact .inl ⟨rfl,h2⟩
 ·rw [h1];refine .inr ⟨i,x,?_,h2,h3,h4⟩
  rw [decide_eq_true (by omega),cond_true];simp
noncomputable def ruleM (bs:List Bind) (lits:List Form) (f:Form) (r:Rule):Bool:=(r.pattern.mt bs lits f).isSome
noncomputable def zhP (bs:List Bind) (rules:List Rule) (lits:List Form) (f:Form):Int × Bool :=
 bif bvOk bs&&(zbs rules lits&&f.valid) then fstR (ruleM bs lits f) rules else (0,false)
theorem zhc {rules:List Rule} {lits:List Form} (h:zbs rules lits=true):(∀ r∈rules,zgI r lits=true)∧rules.length≤9:=by
 unfold zbs at h
 simp only [Bool.and_eq_true,decide_eq_true_eq] at h
 exact ⟨zc7.1 h.1,by have:=h.2.1;omega⟩
theorem ruleOk_pat {r:Rule} {lits:List Form} (h:zgI r lits=true):patOk r.pattern lits=true:=by
 unfold zgI at h
 rw [Bool.and_eq_true] at h
 exact h.1
structure RulesF (rules:List Rule):Prop where
 fit:∀ r∈rules,r.fit
 pw:∀ r∈rules,r.pattern.w≤2 ^ 36
 tw:∀ r∈rules,r.template.w≤2 ^ 36
theorem implFirst_tr (bs:List Bind) (rules:List Rule) (lits:List Form) (f:Form) (hb:∀ b∈bs,b.fit) (hbl:bs.length≤2 ^ 36) (hr:RulesF rules) (hl:Form.fits lits) (hf:f.fit) :
  Tr (fun m=>zeD m bs rules lits f) (zhP bs rules lits f):=by
 refine Tr.eq (fun m=>by unfold zeD;rfl) (Tr.bind (zgA bs (by omega) hb) ?_)
 unfold zhP
 have no:Tr (fun m=>zbi m bs rules lits f true) ((0:Int),false):=Tr.step (fun m=>by rw [zbi];rfl) Tr.val
 cases hbv:bvOk bs with
 | false=>exact Tr.tt rfl no
 | true =>
 refine Tr.ff rfl (Tr.bind (rulesOk_tr rules lits (fun r h=>⟨hr.fit r h,hr.pw r h,hr.tw r h⟩) hl) ?_)
 cases hro:zbs rules lits with
 | false=>exact Tr.tt rfl no
 | true =>
 refine Tr.ff rfl (Tr.bind (zdy f hf) ?_)
 cases hfv:f.valid with
 | false=>exact no
 | true =>
 refine Tr.step (fun m=>by rw [zbi,Bool.not_true,cond_false]) ?_
 rw [Bool.true_and,Bool.true_and,cond_true]
 have hfw:=valid_w hfv
 refine loop_first (L:=fun m k=>zb2 m bs rules lits f k) (E:=fun m r=>zcJ m bs r.pattern lits f) (B:=fun v=>v.2) (fun m k=>by rw [zb2]) (fun r h=>?_)
 have hpo:=ruleOk_pat ((zhc hro).1 r h)
 have hpw:=patOk_w hpo
 exact ⟨_,implMatch_n bs lits hbl hb hbv _ r.pattern (Nat.le_refl _) (patOk_S hpo) (hr.fit r h).1 (by omega) f hfv hf (by omega),rfl⟩
theorem Dr5.rf {lits:List Form} {rules:List Rule} {f:Form} (h:Dr5 lits rules f):RulesF rules :=
 ⟨fun r hr=>⟨(h.r r hr).p.fit,(h.r r hr).t.fit⟩,fun r hr=>by have:=(h.r r hr).p.w;omega,fun r hr=>by have:=(h.r r hr).t.w;omega⟩
theorem DrawFirstRule_tq (code:List Int) (hc:∀ x∈code,0≤x∧x < 256):TQ (fun m=>zcY m code) (fun r=>r.1=[]∧Dr5 r.2.2.1 r.2.1 r.2.2.2) :=
 TQ.eq (fun m=>by unfold zcY;rfl) (TQ.bind (l5Case_tq code hc) (fun v hv=>TQ.val ⟨rfl,hv⟩))
end Go.Abs
end
section
set_option linter.unusedVariables false
set_option linter.unusedSimpArgs false
namespace Go.Abs
noncomputable def zft (x:Form) (h:Hit):Bool:=Form.part h.name x&&!decide (h.depth=0)
noncomputable def cntR (x:Form):Int→List Hit→Option Int
 | n,[]=>some n
 | n,h::hs=>bif zft x h then (bif decide (0≤n)&&decide (n≠(h.many.length:Int)) then none else cntR x (h.many.length:Int) hs) else cntR x n hs
noncomputable def nthR (x:Form) (n:Nat) (hs:List Hit):List Hit:=hs.map fun h=>bif zft x h then h.many.getD n hit0 else h
def rowF (D:Nat→Option Form):Nat→Nat→Option (List Form)
 | _,0=>some []
 | n,k+1=>match D n with
   | none=>none
   | some y=>match rowF D (n+1) k with
     | none=>none
     | some ys=>some (y::ys)
noncomputable def findO (hs:List Hit) (t:Form):Form:=bif decide (0≤hAt hs t) then (hs.getD (hAt hs t).toNat hit0).one else t
def fapp:Option (List Form)→Option (List Form)→Option (List Form)
 | some a,some b=>some (a++b)
 | _,_=>none
mutual
noncomputable def Form.fl:Form→List Hit→Option Form
 | .mk k nm n sc kids,hs=>bif decide (k=1) then some (findO hs (.mk k nm n sc kids))
   else match Form.fls kids hs with
    | none=>none
    | some ys=>bif decide (Form.cnts ys≤400) then some (.mk k nm n sc ys) else none
noncomputable def Form.fls:List Form→List Hit→Option (List Form)
 | [],_=>some []
 | x::xs,hs=>bif zC x then Form.fls xs hs
   else fapp (bif zdu xs then (match cntR x (-1) hs with
    | none=>none
    | some N=>rowF (fun i=>Form.fl x (nthR x i hs)) 0 N.toNat) else (match Form.fl x hs with
    | none=>none
    | some y=>some [y])) (Form.fls xs hs)
end
theorem Form.fl_eq (f:Form) (hs:List Hit):f.fl hs=bif decide (f.kind=1) then some (findO hs f)
  else match Form.fls f.kids hs with
   | none=>none
   | some ys=>bif decide (Form.cnts ys≤400) then some (.mk f.kind f.name f.n f.scopes ys) else none:=by
 obtain ⟨a,b,c,d,e⟩:=f;rw [Form.fl];rfl
theorem Form.fls_eq (x:Form) (xs:List Form) (hs:List Hit):Form.fls (x::xs) hs=bif zC x then Form.fls xs hs
  else fapp (bif zdu xs then (match cntR x (-1) hs with
   | none=>none
   | some N=>rowF (fun i=>Form.fl x (nthR x i hs)) 0 N.toNat) else (match Form.fl x hs with
   | none=>none
   | some y=>some [y])) (Form.fls xs hs):=by rw [Form.fls]
def DepR (l:List (Form × Int)) (v:Nat) (hs:List Hit) (x:Form):Prop:=∀ g,Form.part g x=true→(0 < dep l g-v∨0 < dep (nd hs) g)→dep (nd hs) g=dep l g-v
structure zhS (l:List (Form × Int)) (v:Nat) (hs:List Hit) (x:Form):Prop where
 hv:hvOk hs=true
 rws:x.rws l v=true
 ok:∃ d,x.isOk d=true
 R:DepR l v hs x
theorem part_self (x:Form):Form.part x x=true:=by rw [Form.part_eq,zhb,Bool.true_or]
theorem part_kid {g x f:Form} (hx:x∈f.kids) (h:Form.part g x=true):Form.part g f=true:=by
 rw [Form.part_eq,parts_mem hx h,Bool.or_true]
theorem kR_kid {l:List (Form × Int)} {v:Nat}:∀ {zs:List Form} {i:Nat} {x:Form},Form.kR l v zs=true→zs[i]?=some x→zC x=false→bif zdu (zs.drop (i+1)) then x.anyD l v=true∧x.rws l (v+1)=true else x.rws l v=true
 | y::ys,0,x,h,hx,hd=>by
   simp at hx;subst hx
   rw [Form.kR,Bool.and_eq_true,hd,cond_false] at h
   have h1:=h.1
   simp only [List.drop_succ_cons,List.drop_zero]
   cases hn:zdu ys with
   | true=>rw [hn,cond_true,Bool.and_eq_true] at h1;exact h1
   | false=>rw [hn,cond_false] at h1;exact h1
 | y::ys,i+1,x,h,hx,hd=>by
   rw [Form.kR,Bool.and_eq_true] at h
   have:=kR_kid (zs:=ys) (i:=i) (x:=x) h.2 (by simpa using hx) hd
   simpa using this
mutual
theorem anyD_ex {l:List (Form × Int)} {v:Int}:∀ f:Form,f.anyD l v=true→∃ g,Form.part g f=true∧v < dep l g
 | .mk a b c d e,h=>by
   rw [Form.anyD,Bool.or_eq_true] at h
   rcases h with h | h
   ·exact ⟨_,part_self _,of_decide_eq_true h⟩
   ·obtain ⟨g,h1,h2⟩:=anyDs_ex e h
    exact ⟨g,by rw [Form.part,h1,Bool.or_true],h2⟩
theorem anyDs_ex {l:List (Form × Int)} {v:Int}:∀ zs:List Form,Form.anyDs l v zs=true→∃ g,Form.parts g zs=true∧v < dep l g
 | [],h=>by rw [Form.anyDs] at h;cases h
 | x::xs,h=>by
   rw [Form.anyDs,Bool.or_eq_true] at h
   rcases h with h | h
   ·obtain ⟨g,h1,h2⟩:=anyD_ex x h
    exact ⟨g,by rw [Form.parts,h1,Bool.true_or],h2⟩
   ·obtain ⟨g,h1,h2⟩:=anyDs_ex xs h
    exact ⟨g,by rw [Form.parts,h1,Bool.or_true],h2⟩
end
theorem zia {hs:List Hit} (h:hvOk hs=true):(∀ x∈hs,x.isOk=true)∧hs.length≤20:=by
 unfold hvOk at h
 rw [Bool.and_eq_true,decide_eq_true_eq] at h
 refine ⟨?_,by omega⟩
 have:∀ {l ps:List Hit},hvF ps l=true→∀ x∈l,x.isOk=true:=by
  intro l
  induction l with
  | nil=>intro ps _ x hx;cases hx
  | cons y ys ih =>
    intro ps hv x hx
    rw [hvF,Bool.and_eq_true,Bool.and_eq_true] at hv
    rcases List.mem_cons.1 hx with rfl | hx
    ·exact hv.1
    ·exact ih hv.2.2 x hx
 exact this h.1
theorem isOk_hit {h:Hit} (hk:h.isOk=true):isNm h.name=true∧(0≤h.depth∧h.depth≤3)∧(h.depth=0→h.one.valid=true∧h.many=[])∧(h.depth≠0→h.many.length≤400∧∀ y∈h.many,y.name=h.name∧y.depth=h.depth-1∧y.isOk=true):=by
 rw [Hit.isOk_eq] at hk
 simp only [Bool.and_eq_true,decide_eq_true_eq] at hk
 obtain ⟨a,_,_,b,c⟩:=hk
 refine ⟨a,b,fun h0=>?_,fun h0=>?_⟩
 ·rw [decide_eq_true h0,cond_true,Bool.and_eq_true,decide_eq_true_eq] at c
  exact ⟨c.1,List.eq_nil_of_length_eq_zero (by omega)⟩
 ·rw [decide_eq_false h0,cond_false,Bool.and_eq_true,Bool.and_eq_true,decide_eq_true_eq] at c
  refine ⟨by omega,fun y hy=>?_⟩
  have:=zc7.1 c.2.2 y hy
  rw [Bool.and_eq_true,Bool.and_eq_true,decide_eq_true_eq] at this
  exact ⟨zfO.1 this.1,this.2.1,this.2.2⟩
theorem hv_name {hs:List Hit} (hv:hvOk hs=true) {h:Hit} (hm:h∈hs):dep (nd hs) h.name=h.depth:=by
 have hn:=(isOk_hit ((zia hv).1 h hm)).1
 unfold hvOk at hv
 rw [Bool.and_eq_true] at hv
 unfold isNm at hn
 rw [Bool.and_eq_true,decide_eq_true_eq] at hn
 unfold dep
 rw [decide_eq_false (by simp [hn.1]),cond_false]
 exact hv_dep hv.1 h hm
theorem depF_none {f:Form}:∀ {l:List Hit},(∀ h∈l,h.name≠f)→depF (nd l) f=-1
 | [],_=>rfl
 | x::xs,h=>by
   show depF ((x.name,x.depth)::nd xs) f=-1
   rw [depF,same_ne (h x (by simp)),cond_false,depF_none (fun y hy=>h y (by simp [hy]))]
theorem dep_cases {hs:List Hit} (hv:hvOk hs=true) (g:Form):(∃ h∈hs,h.name=g∧dep (nd hs) g=h.depth)∨((∀ h∈hs,h.name≠g)∧dep (nd hs) g=-1):=by
 by_cases hx:∃ h∈hs,h.name=g
 ·obtain ⟨h,hm,rfl⟩:=hx
  exact .inl ⟨h,hm,rfl,hv_name hv hm⟩
 ·have hn:∀ h∈hs,h.name≠g:=fun h hm he=>hx ⟨h,hm,he⟩
  refine .inr ⟨hn,?_⟩
  unfold dep
  cases decide (g.kind≠1) with
  | true=>rfl
  | false=>rw [cond_false];exact depF_none hn
theorem cntR_some {x:Form}:∀ {hs:List Hit} {n N:Int},cntR x n hs=some N→((N=n∧∀ h∈hs,zft x h=true→False)∨(∃ h∈hs,zft x h=true)∧∀ h∈hs,zft x h=true→(h.many.length:Int)=N)∧(0≤n→N=n)
 | [],n,N,h=>by rw [cntR] at h;cases h;exact ⟨.inl ⟨rfl,fun h hh=>by cases hh⟩,fun _=>rfl⟩
 | y::ys,n,N,h=>by
   rw [cntR] at h
   cases hd:zft x y with
   | false =>
     rw [hd,cond_false] at h
     obtain ⟨h1,h2⟩:=cntR_some h
     refine ⟨?_,h2⟩
     rcases h1 with ⟨e,h1⟩ | ⟨⟨z,hz,hzd⟩,h1⟩
     ·exact .inl ⟨e,fun w hw hwd=>by
       rcases List.mem_cons.1 hw with rfl | hw
       ·rw [hd] at hwd;cases hwd
       ·exact h1 w hw hwd⟩
     ·exact .inr ⟨⟨z,by simp [hz],hzd⟩,fun w hw hwd=>by
       rcases List.mem_cons.1 hw with rfl | hw
       ·rw [hd] at hwd;cases hwd
       ·exact h1 w hw hwd⟩
   | true =>
     rw [hd,cond_true] at h
     cases hc:(decide (0≤n)&&decide (n≠(y.many.length:Int))) with
     | true=>rw [hc,cond_true] at h;cases h
     | false =>
       rw [hc,cond_false] at h
       obtain ⟨h1,h2⟩:=cntR_some h
       have hN:=h2 (by omega)
       refine ⟨.inr ⟨⟨y,by simp,hd⟩,fun w hw hwd=>?_⟩,fun h0=>?_⟩
       ·rcases List.mem_cons.1 hw with rfl | hw
        ·exact hN.symm
        ·rcases h1 with ⟨_,h1⟩ | ⟨_,h1⟩
         ·exact (h1 w hw hwd).elim
         ·exact h1 w hw hwd
       ·rw [hN]
        rw [Bool.and_eq_false_iff] at hc
        rcases hc with hc | hc
        ·exact absurd h0 (of_decide_eq_false hc)
        ·have:=of_decide_eq_false hc;omega
theorem zhS.kid {l:List (Form × Int)} {v:Nat} {hs:List Hit} {f x:Form} (hF:zhS l v hs f) {i:Nat} (hx:f.kids[i]?=some x) (hd:zC x=false) (hn:zdu (f.kids.drop (i+1))=false):zhS l v hs x:=by
 have hm:=List.mem_of_getElem? hx
 have hr:=hF.rws
 rw [Form.rws_eq,Bool.and_eq_true] at hr
 have:=kR_kid hr.2 hx hd
 rw [hn,cond_false] at this
 obtain ⟨d,hok⟩:=hF.ok
 exact ⟨hF.hv,this,⟨_,(zfL hok).2 x hm⟩,fun g hg=>hF.R g (part_kid hm hg)⟩
theorem many_mem {h:Hit} {n:Nat} (hn:n < h.many.length):h.many.getD n hit0∈h.many:=by
 rw [List.getD_eq_getElem?_getD,List.getElem?_eq_getElem hn];exact List.getElem_mem hn
theorem nthR_names {x:Form} {n:Nat}:∀ {hs:List Hit},(∀ h∈hs,h.isOk=true)→(∀ h∈hs,zft x h=true→n < h.many.length)→(nthR x n hs).map Hit.name=hs.map Hit.name
 | [],_,_=>rfl
 | h::hs,hk,hn=>by
   have ih:=nthR_names (x:=x) (n:=n) (hs:=hs) (fun y hy=>hk y (by simp [hy])) (fun y hy=>hn y (by simp [hy]))
   show (bif zft x h then h.many.getD n hit0 else h).name::(nthR x n hs).map Hit.name=h.name::hs.map Hit.name
   rw [ih]
   cases hd:zft x h with
   | false=>rfl
   | true =>
     rw [cond_true]
     have h0:h.depth≠0:=by
      unfold zft at hd
      rw [Bool.and_eq_true,Bool.not_eq_true',decide_eq_false_iff_not] at hd
      exact hd.2
     rw [(((isOk_hit (hk h (by simp))).2.2.2 h0).2 _ (many_mem (hn h (by simp) hd))).1]
theorem hvF_dist:∀ {l ps:List Hit},hvF ps l=true→distF (ps.map Hit.name) (l.map Hit.name)=true
 | [],ps,_=>rfl
 | x::xs,ps,h=>by
   rw [hvF,Bool.and_eq_true,Bool.and_eq_true] at h
   have ih:=hvF_dist h.2.2
   rw [List.map_append] at ih
   rw [List.map_cons,distF]
   have h1:inF (ps.map Hit.name) x.name=false:=by
    unfold inF
    rw [zc7.2 (fun y hy=>?_)]
    ·rfl
    ·obtain ⟨z,hz,rfl⟩:=List.mem_map.1 hy
     exact zc7.1 h.2.1 z hz
   rw [h1];simpa using ih
theorem nthR_hv {x:Form} {n:Nat} {hs:List Hit} (hv:hvOk hs=true) (hn:∀ h∈hs,zft x h=true→n < h.many.length):hvOk (nthR x n hs)=true:=by
 obtain ⟨h1,h2⟩:=zia hv
 have hnm:=nthR_names h1 hn
 unfold hvOk at hv ⊢
 rw [Bool.and_eq_true] at hv ⊢
 refine ⟨hvF_of (fun y hy=>?_) ?_,?_⟩
 ·obtain ⟨h,hm,rfl⟩:=List.mem_map.1 hy
  cases hd:zft x h with
  | false=>exact h1 h hm
  | true =>
    rw [cond_true]
    have h0:h.depth≠0:=by
     unfold zft at hd
     rw [Bool.and_eq_true,Bool.not_eq_true',decide_eq_false_iff_not] at hd
     exact hd.2
    exact (((isOk_hit (h1 h hm)).2.2.2 h0).2 _ (many_mem (hn h hm hd))).2.2
 ·rw [hnm];exact hvF_dist hv.1
 ·have:(nthR x n hs).length=hs.length:=by unfold nthR;rw [List.length_map]
  rw [this];exact hv.2
theorem zhS.row {l:List (Form × Int)} {v:Nat} {hs:List Hit} {f x:Form} (hF:zhS l v hs f) {i:Nat} (hx:f.kids[i]?=some x) (hd:zC x=false) (hn:zdu (f.kids.drop (i+1))=true) :
  (∃ h∈hs,zft x h=true)∧∀ n,(∀ h∈hs,zft x h=true→n < h.many.length)→zhS l (v+1) (nthR x n hs) x:=by
 have hm:=List.mem_of_getElem? hx
 have hr:=hF.rws
 rw [Form.rws_eq,Bool.and_eq_true] at hr
 have hk:=kR_kid hr.2 hx hd
 rw [hn,cond_true] at hk
 obtain ⟨d,hok⟩:=hF.ok
 refine ⟨?_,fun n hlen=>⟨nthR_hv hF.hv hlen,hk.2,⟨_,(zfL hok).2 x hm⟩,fun g hg hpos=>?_⟩⟩
 ·obtain ⟨g,h1,h2⟩:=anyD_ex x hk.1
  have hR:=hF.R g (part_kid hm h1) (.inl (by omega))
  rcases dep_cases hF.hv g with ⟨h,hmem,rfl,he⟩ | ⟨_,he⟩
  ·refine ⟨h,hmem,?_⟩
   unfold zft
   rw [h1,Bool.true_and,decide_eq_false (by omega)];rfl
  ·omega
 ·have hR:=hF.R g (part_kid hm hg)
  rcases dep_cases hF.hv g with ⟨h,hmem,rfl,he⟩ | ⟨hno,he⟩
  ·have hin:(bif zft x h then h.many.getD n hit0 else h)∈nthR x n hs:=List.mem_map.2 ⟨h,hmem,rfl⟩
   have hok:=isOk_hit ((zia hF.hv).1 h hmem)
   by_cases h0:h.depth=0
   ·have hdp:zft x h=false:=by unfold zft;rw [decide_eq_true h0];simp
    rw [hdp,cond_false] at hin
    have:=hv_name (nthR_hv hF.hv hlen) hin
    rcases hpos with hp | hp
    ·have:=hR (.inl (by omega));omega
    ·omega
   ·have hdp:zft x h=true:=by unfold zft;rw [hg,decide_eq_false h0];rfl
    rw [hdp,cond_true] at hin
    have hnm:=(hok.2.2.2 h0).2 _ (many_mem (hlen h hmem hdp))
    have h2:=hv_name (nthR_hv hF.hv hlen) hin
    rw [hnm.1,hnm.2.1] at h2
    have:=hR (.inr (by have:=hok.2.1.1;omega))
    rw [h2];omega
  ·have h2:dep (nd (nthR x n hs)) g=-1:=by
    rcases dep_cases (nthR_hv hF.hv hlen) g with ⟨h',hmem',hnm',_⟩ | ⟨_,he'⟩
    ·have:h'.name∈(nthR x n hs).map Hit.name:=List.mem_map.2 ⟨h',hmem',rfl⟩
     rw [nthR_names (zia hF.hv).1 hlen] at this
     obtain ⟨h,hmem,hnm⟩:=List.mem_map.1 this
     exact absurd (hnm.trans hnm') (hno h hmem)
    ·exact he'
   rcases hpos with hp | hp
   ·have:=hR (.inl (by omega));omega
   ·omega
theorem zhS.leaf {l:List (Form × Int)} {v:Nat} {hs:List Hit} {x:Form} (hF:zhS l v hs x):hAt hs x=-1∨∃ i h,hAt hs x=((i:Nat):Int)∧hs[i]?=some h∧h.depth=0∧h.one.valid=true:=by
 rcases fnd_at (D:=fun y:Hit=>same y.name x) (l:=hs) (k:=0) with ⟨h1,_⟩ | ⟨i,h,h1,h2,h3,_⟩
 ·exact .inl h1
 ·have hm:=List.mem_of_getElem? h2
  have hn:h.name=x:=zfO.1 h3
  have hok:=isOk_hit ((zia hF.hv).1 h hm)
  have hd:=hv_name hF.hv hm
  rw [hn] at hd
  have hr:=hF.rws
  rw [Form.rws_eq,Bool.and_eq_true,Bool.not_eq_true',decide_eq_false_iff_not] at hr
  have h0:h.depth=0:=by
   by_cases hp:0 < h.depth
   ·have:=hF.R x (part_self x) (.inr (by omega));omega
   ·have:=hok.2.1.1;omega
  exact .inr ⟨i,h,by unfold hAt;rw [h1,Nat.zero_add],h2,h0,(hok.2.2.1 h0).1⟩
structure FormF (y:Form):Prop where
 ok:∃ d,y.isOk d=true
 cnt:y.cnt≤401
theorem FormF.w {y:Form} (h:FormF y):y.w≤10426:=by
 obtain ⟨d,hd⟩:=h.ok
 have:=isOk_w _ y (Nat.le_refl _) d hd
 have:=h.cnt;omega
theorem all_isOk:∀ {l:List Form},(∀ y∈l,∃ d,y.isOk d=true)→∃ D,∀ y∈l,y.isOk D=true
 | [],_=>⟨0,fun y hy=>by cases hy⟩
 | x::xs,h=>by
   obtain ⟨D,hD⟩:=all_isOk (l:=xs) (fun y hy=>h y (by simp [hy]))
   obtain ⟨d,hd⟩:=h x (by simp)
   refine ⟨D+d,fun y hy=>?_⟩
   rcases List.mem_cons.1 hy with rfl | hy
   ·exact isOk_mono _ y (Nat.le_refl _) d _ (by omega) hd
   ·exact isOk_mono _ y (Nat.le_refl _) D _ (by omega) (hD y hy)
theorem isOk_node {f:Form} {d:Nat} (h:f.isOk d=true) (h1:¬ f.kind=1) {ys:List Form} (hk:f.kind=3∨ys=[]) {D:Nat} (hD:∀ y∈ys,y.isOk D=true):f.name=(⟨#[]⟩:ByteArray)∧f.scopes=[]∧(Form.mk f.kind f.name f.n f.scopes ys).isOk (D+1)=true:=by
 rw [Form.isOk_eq] at h
 cases hd0:decide (d=0) with
 | true=>rw [hd0] at h;cases h
 | false =>
 rw [hd0,cond_false,decide_eq_false h1,cond_false] at h
 have hd1:decide (D+1=0)=false:=decide_eq_false (by omega)
 generalize f.kind=k at h h1 hk ⊢
 generalize f.name=nm at h ⊢
 generalize f.n=n at h ⊢
 generalize f.scopes=sc at h ⊢
 rw [Form.isOk,Form.isOks_eq,hd1,cond_false,decide_eq_false h1,cond_false]
 by_cases h2:k=2
 ·rw [decide_eq_true h2,cond_true] at h ⊢
  simp only [Bool.and_eq_true,decide_eq_true_eq] at h ⊢
  obtain ⟨a,b,c,e⟩:=h
  have hy:ys=[]:=by
   rcases hk with hk | hk
   ·omega
   ·exact hk
  subst hy
  exact ⟨a,List.eq_nil_of_length_eq_zero (by omega),a,b,c,by simp⟩
 ·rw [decide_eq_false h2,cond_false] at h ⊢
  simp only [Bool.and_eq_true,decide_eq_true_eq] at h ⊢
  obtain ⟨a,b,c,e,g⟩:=h
  exact ⟨b,List.eq_nil_of_length_eq_zero (by omega),a,b,c,e,zc7.2 (fun y hy=>hD y hy)⟩
end Go.Abs
end
section
set_option linter.unusedVariables false
set_option linter.unusedSimpArgs false
namespace Go.Abs
theorem fapp_some {a b:Option (List Form)} {r:List Form} (h:fapp a b=some r):∃ x y,a=some x∧b=some y∧r=x++y:=by
 cases a<;>cases b<;>simp [fapp] at h
 exact ⟨_,_,rfl,rfl,h.symm⟩
theorem rowF_mem {D:Nat→Option Form}:∀ {k n:Nat} {r:List Form},rowF D n k=some r→∀ y∈r,∃ i,n≤i∧i < n+k∧D i=some y
 | 0,n,r,h,y,hy=>by rw [rowF] at h;cases h;cases hy
 | k+1,n,r,h,y,hy=>by
   rw [rowF] at h
   cases hd:D n with
   | none=>simp [hd] at h
   | some z =>
     cases hr:rowF D (n+1) k with
     | none=>simp [hd,hr] at h
     | some ys =>
       simp [hd,hr] at h;subst h
       rcases List.mem_cons.1 hy with rfl | hy
       ·exact ⟨n,Nat.le_refl _,by omega,hd⟩
       ·obtain ⟨i,h1,h2,h3⟩:=rowF_mem hr y hy
        exact ⟨i,by omega,by omega,h3⟩
theorem cntR_lt {x:Form} {hs:List Hit} {N:Int} (hv:hvOk hs=true) (hne:∃ h∈hs,zft x h=true) (h:cntR x (-1) hs=some N):0≤N∧N≤400∧∀ h∈hs,zft x h=true→h.many.length=N.toNat:=by
 obtain ⟨h1,_⟩:=cntR_some h
 rcases h1 with ⟨_,h1⟩ | ⟨⟨y,hy,hyd⟩,h1⟩
 ·obtain ⟨y,hy,hyd⟩:=hne;exact (h1 y hy hyd).elim
 ·have e:=h1 y hy hyd
  have h0:y.depth≠0:=by
   unfold zft at hyd
   rw [Bool.and_eq_true,Bool.not_eq_true',decide_eq_false_iff_not] at hyd
   exact hyd.2
  have:=((isOk_hit ((zia hv).1 y hy)).2.2.2 h0).1
  exact ⟨by omega,by omega,fun z hz hzd=>by have:=h1 z hz hzd;omega⟩
theorem fls_ok_of {l:List (Form × Int)} {v:Nat} {hs:List Hit} {f:Form} (hF:zhS l v hs f) (ih:∀ x∈f.kids,∀ v' hs',zhS l v' hs' x→∀ y,x.fl hs'=some y→FormF y):∀ (rest:List Form) (k:Nat) (r:List Form),f.kids.drop k=rest→Form.fls rest hs=some r→∀ y∈r,FormF y
 | [],k,r,hd,h,y,hy=>by rw [Form.fls] at h;cases h;cases hy
 | x::xs,k,r,hd,h,y,hy=>by
   obtain ⟨hx,hd2,hlt⟩:=zg8 hd
   have hm:=List.mem_of_getElem? hx
   rw [Form.fls_eq] at h
   cases hdx:zC x with
   | true=>rw [hdx,cond_true] at h;exact fls_ok_of hF ih xs (k+1) r hd2 h y hy
   | false =>
     rw [hdx,cond_false] at h
     obtain ⟨a,b,ha,hb,rfl⟩:=fapp_some h
     rcases List.mem_append.1 hy with hy | hy
     ·cases hn:zdu xs with
      | false =>
        rw [hn,cond_false] at ha
        cases hf:x.fl hs with
        | none=>rw [hf] at ha;cases ha
        | some z =>
          rw [hf] at ha;cases ha
          rw [List.mem_singleton] at hy;subst hy
          exact ih x hm v hs (hF.kid hx hdx (by rw [hd2];exact hn)) _ hf
      | true =>
        rw [hn,cond_true] at ha
        obtain ⟨r1,r2⟩:=hF.row hx hdx (by rw [hd2];exact hn)
        cases hc:cntR x (-1) hs with
        | none=>rw [hc] at ha;cases ha
        | some N =>
          rw [hc] at ha
          obtain ⟨c0,c1,c2⟩:=cntR_lt hF.hv r1 hc
          obtain ⟨i,_,i2,i3⟩:=rowF_mem ha y hy
          exact ih x hm (v+1) _ (r2 i (fun h hh hdp=>by rw [c2 h hh hdp];omega)) _ i3
     ·exact fls_ok_of hF ih xs (k+1) b hd2 hb y hy
theorem fl_ok_n (l:List (Form × Int)):∀ (n:Nat) (f:Form),f.w≤n→∀ v hs,zhS l v hs f→∀ y,f.fl hs=some y→FormF y:=by
 intro n
 induction n with
 | zero=>intro f h;have:=f.w_kids;omega
 | succ n ih =>
   intro f hn v hs hF y hy
   have hw:=f.w_kids
   rw [Form.fl_eq] at hy
   obtain ⟨d,hok⟩:=hF.ok
   by_cases h1:f.kind=1
   ·rw [decide_eq_true h1,cond_true] at hy
    cases hy
    unfold findO
    rcases hF.leaf with hl | ⟨i,h,hl,hi,h0,hv⟩
    ·rw [hl,decide_eq_false (by omega),cond_false]
     refine ⟨⟨d,hok⟩,?_⟩
     rw [cnt_eq,(zfL hok).1 (by omega),Form.cnts];omega
    ·rw [hl,decide_eq_true (by omega),cond_true,Int.toNat_natCast,List.getD_eq_getElem?_getD,hi,Option.getD_some]
     unfold Form.valid at hv
     rw [Bool.and_eq_true,decide_eq_true_eq] at hv
     exact ⟨⟨40,hv.1⟩,by omega⟩
   ·rw [decide_eq_false h1,cond_false] at hy
    cases hf:Form.fls f.kids hs with
    | none=>simp [hf] at hy
    | some ys =>
      rw [hf] at hy
      simp only at hy
      cases hc:decide (Form.cnts ys≤400) with
      | false=>rw [hc] at hy;cases hy
      | true =>
        rw [hc,cond_true] at hy
        cases hy
        have hall:=fls_ok_of hF (fun x hx v' hs' hF' y hy=>ih x (by have:=Form.ws_mem hx;omega) v' hs' hF' y hy) f.kids 0 ys (by rw [List.drop_zero]) hf
        obtain ⟨D,hD⟩:=all_isOk (fun y hy=>(hall y hy).ok)
        have hk3:f.kind=3∨ys=[]:=by
         by_cases h3:f.kind=3
         ·exact .inl h3
         ·rw [(zfL hok).1 h3,Form.fls] at hf;cases hf;exact .inr rfl
        refine ⟨⟨D+1,(isOk_node hok h1 hk3 hD).2.2⟩,?_⟩
        have:=of_decide_eq_true hc
        rw [Form.cnt];omega
theorem fl_ok {l:List (Form × Int)} {v:Nat} {hs:List Hit} {f y:Form} (hF:zhS l v hs f) (h:f.fl hs=some y):FormF y:=fl_ok_n l _ f (Nat.le_refl _) v hs hF y h
theorem eachFill_n (h:Hit):∀ (n:Nat) (f:Form) (b:Bool),f.w≤n→Tr (fun m=>zaW m f b h) (b||Form.part h.name f):=by
 intro n
 induction n with
 | zero=>intro f b h;have:=f.w_kids;omega
 | succ n ih =>
   intro f b hn
   have hw:=f.w_kids
   rw [Form.part_eq]
   refine Tr.step (fun m=>by rw [zaW]) (Tr.bind (v:=b||same f h.name) ?_ ?_)
   ·refine Tr.eq (fun m=>by unfold zg5;rfl) ?_
    cases b with
    | true=>exact Tr.tt rfl Tr.val
    | false=>exact Tr.ff rfl (Tr.bind (zbZ _ _) Tr.val)
   ·have key:=zac f.kids (fun k zs=>∀ b:Bool,Tr (fun m=>zaB m f h (k:Int) b) (b||Form.parts h.name zs)) ?_ ?_ 0 (Nat.zero_le _) (b||same f h.name)
    ·rw [← Bool.or_assoc];simpa using key
    ·intro b;exact Tr.step (fun m=>by rw [zaB,zW,cond_false,Form.parts,Bool.or_false]) Tr.val
    ·intro k x zs hk hx hd ihk b
     have hm:=Form.ws_mem (List.mem_of_getElem? hx)
     refine Tr.step (fun m=>by rw [zaB,ltN hk,cond_true,zG hx,Option.bind_some,zbM]) (Tr.bind (ih x b (by omega)) ?_)
     rw [Form.parts,← Bool.or_assoc]
     exact ihk _
theorem eachFill_tr (h:Hit) (f:Form):Tr (fun m=>zaW m f false h) (Form.part h.name f):=by
 have:=eachFill_n h _ f false (Nat.le_refl _);rwa [Bool.false_or] at this
noncomputable def deepI (x:Form):List Hit→Nat→List Int
 | [],_=>[]
 | h::hs,k=>(bif zft x h then [(k:Int)] else [])++deepI x hs (k+1)
section
variable {f:Form} {hs:List Hit}
abbrev outF (f:Form) (acc:List Form):Form:=Form.mk f.kind (⟨#[]⟩:ByteArray) f.n ([]:List Int) acc
def resI (f:Form) (acc:List Form):Option (List Form)→Form × Bool
 | some ys=>bif decide (Form.cnts (acc++ys)≤400) then (outF f (acc++ys),true) else (zcr,false)
 | none=>(zcr,false)
theorem resI_some {acc ys:List Form}:resI f acc (some ys)=bif decide (Form.cnts (acc++ys)≤400) then (outF f (acc++ys),true) else (zcr,false):=rfl
theorem resI_none {acc:List Form} {o:Option (List Form)}:resI f acc (fapp none o)=(zcr,false):=by cases o<;>rfl
theorem resI_app {acc a:List Form} {o:Option (List Form)}:resI f acc (fapp (some a) o)=resI f (acc++a) o:=by
 cases o with
 | none=>rfl
 | some b=>unfold resI fapp;simp only [List.append_assoc]
theorem resI_big {acc:List Form} {o:Option (List Form)} (h:400 < Form.cnts acc):resI f acc o=(zcr,false):=by
 cases o with
 | none=>rfl
 | some ys =>
   have h2:¬ Form.cnts (acc++ys)≤400:=by rw [cnts_append];omega
   rw [resI_some,decide_eq_false h2];rfl
theorem put_tr {x:Form} {hs':List Hit} (hb:Tr (fun m=>zdQ m x hs') (match x.fl hs' with
  | some y=>(y,true)
  | none=>(zcr,false))) (hy:∀ y,x.fl hs'=some y→FormF y) {acc:List Form} (ha:Form.cnts acc≤400) :
  Tr (fun m=>zdD m x hs' (Form.cnts acc:Int) (outF f acc)) (match x.fl hs' with
   | some y=>(decide (Form.cnts (acc++[y])≤400),(Form.cnts (acc++[y]):Int),outF f (acc++[y]))
   | none=>(false,(Form.cnts acc:Int),outF f acc)):=by
 have hl:=cnts_len acc
 cases hx:x.fl hs' with
 | none =>
   rw [hx] at hb
   exact Tr.step (fun m=>by rw [zdD]) (Tr.bind hb (Tr.eq (fun m=>rfl) Tr.val))
 | some y =>
   rw [hx] at hb
   have hF:=hy y hx
   have hyw:=hF.w
   have hyc:=hF.cnt
   have hcs:Form.cnts (acc++[y])=Form.cnts acc+y.cnt:=by rw [cnts_append,Form.cnts,Form.cnts,Nat.add_zero]
   refine Tr.step (fun m=>by rw [zdD]) (Tr.bind hb ?_)
   dsimp only
   refine Tr.eq (fun m=>by rw [Bool.not_true,cond_false]) (Tr.bind (FormSize_tr y (by omega)) (Tr.chk (decide_eq_true (show (acc.length+1)*80≤140737488355328 by omega)) ?_))
   refine Tr.eq (fun m=>by rw [idx_last,Option.bind_some,zaI (by omega),set_end]) ?_
   have e1:(Form.cnts acc:Int)+(y.cnt:Int)=((Form.cnts (acc++[y]):Nat):Int):=by rw [hcs];simp
   rw [e1]
   have e2:decide (((Form.cnts (acc++[y]):Nat):Int)≤400)=decide (Form.cnts (acc++[y])≤400):=by
    rw [Bool.eq_iff_iff,decide_eq_true_iff,decide_eq_true_iff];omega
   rw [e2];exact Tr.val
theorem fill_l9_tr (g7:Int) (x:Form) (g45:Int) (n:Nat) (acc:List Form) (g54:Int) {v:Form × Bool} (hlen:∀ h∈hs,zft x h=true→n < h.many.length)
  (hK:Tr (fun m=>zeK m f hs g7 x g45 (deepI x hs 0) (n:Int) f.kind (⟨#[]⟩:ByteArray) f.n ([]:List Int) acc g54 (nthR x n hs)) v) :
  Tr (fun m=>zcD m f hs g7 x g45 (deepI x hs 0) (n:Int) f.kind (⟨#[]⟩:ByteArray) f.n ([]:List Int) acc g54 0 hs) v:=by
 have key:∀ (zs pre:List Hit),hs=pre++zs→∀ p:Nat,p+(deepI x zs pre.length).length=(deepI x hs 0).length→(deepI x hs 0).drop p=deepI x zs pre.length →
   Tr (fun m=>zcD m f hs g7 x g45 (deepI x hs 0) (n:Int) f.kind (⟨#[]⟩:ByteArray) f.n ([]:List Int) acc g54 (p:Int) (nthR x n pre++zs)) v:=by
  intro zs
  induction zs with
  | nil =>
    intro pre he p hp hd
    rw [deepI,List.length_nil,Nat.add_zero] at hp
    rw [List.append_nil] at he
    subst he
    rw [List.append_nil]
    exact Tr.step (fun m=>by rw [zcD,hp,zW,cond_false]) hK
  | cons h zs ih =>
    intro pre he p hp hd
    have hgo:hs=(pre++[h])++zs:=by rw [he];simp
    have hnp:(nthR x n pre).length=pre.length:=by unfold nthR;rw [List.length_map]
    rw [deepI] at hp hd
    cases hb:zft x h with
    | false =>
      rw [hb,cond_false,List.nil_append] at hp hd
      have:=ih (pre++[h]) hgo p (by simpa using hp) (by simpa using hd)
      have e:nthR x n (pre++[h])++zs=nthR x n pre++h::zs:=by unfold nthR;simp [hb]
      rw [e] at this;exact this
    | true =>
      rw [hb,cond_true,List.singleton_append] at hp hd
      obtain ⟨q1,q2,q3⟩:=zg8 hd
      have hhs:hs[pre.length]?=some h:=by rw [he];simp
      have hm:=List.mem_of_getElem? hhs
      have hn:=hlen h hm hb
      have hmn:h.many[n]?=some (h.many.getD n hit0):=by rw [List.getD_eq_getElem?_getD,List.getElem?_eq_getElem hn];rfl
      have hcur:(nthR x n pre++h::zs)[pre.length]?=some h:=by rw [List.getElem?_append_right (by omega),hnp,Nat.sub_self];rfl
      refine Tr.step (fun m=>by rw [zcD,ltN q3,cond_true,zG q1,Option.bind_some,zG hhs,Option.bind_some,zG hmn,Option.bind_some,zG hcur,Option.bind_some,zbM]) ?_
      have:=ih (pre++[h]) hgo (p+1) (by simp at hp ⊢;omega) (by simpa using q2)
      have e:nthR x n (pre++[h])++zs=(nthR x n pre++h::zs).set (pre.length:Int).toNat (h.many.getD n hit0):=by
       rw [Int.toNat_natCast,List.set_append_right _ _ (by omega),hnp,Nat.sub_self,List.set_cons_zero]
       unfold nthR;simp [hb]
      rw [e] at this;exact this
 have:=key hs [] rfl 0 (by simp) (by simp)
 simpa [nthR] using this
theorem fill_l7_tr {l:List (Form × Int)} {vv:Nat} (k:Nat) (x:Form) (hk:k < 2 ^ 40) (N:Nat) (hN:N≤400) (hsl:hs.length≤20) (hlen:∀ h∈hs,zft x h=true→h.many.length=N)
  (hb:∀ i,i < N→Tr (fun m=>zdQ m x (nthR x i hs)) (match x.fl (nthR x i hs) with
   | some y=>(y,true)
   | none=>(zcr,false))) (hF:∀ i,i < N→zhS l vv (nthR x i hs) x) {o:Option (List Form)}
  (hK:∀ acc,Form.cnts acc≤400→Tr (fun m=>zbW m f hs ((k+1:Nat):Int) f.kind (⟨#[]⟩:ByteArray) f.n ([]:List Int) acc (Form.cnts acc:Int)) (resI f acc o)) :
  ∀ (j n:Nat),n+j=N→∀ acc,Form.cnts acc≤400→Tr (fun m=>zdc m f hs (k:Int) x (N:Int) (deepI x hs 0) (n:Int) f.kind (⟨#[]⟩:ByteArray) f.n ([]:List Int) acc (Form.cnts acc:Int)) (resI f acc (fapp (rowF (fun i=>x.fl (nthR x i hs)) n j) o)):=by
 intro j
 induction j with
 | zero =>
   intro n hn acc ha
   have:n=N:=by omega
   subst this
   rw [rowF,resI_app,List.append_nil]
   exact Tr.step (fun m=>by rw [zdc,zW,cond_false,zaI (by omega),zbM]) (hK acc ha)
 | succ j ih =>
   intro n hn acc ha
   have hnN:n < N:=by omega
   refine Tr.step (fun m=>by rw [zdc,ltN hnN,cond_true]) ?_
   refine Tr.bind (v:=hs) (Tr.eq (fun m=>by unfold zeW;rfl) (Tr.chk (decide_eq_true (by simp;omega)) Tr.val)) ?_
   refine fill_l9_tr (k:Int) x (N:Int) n acc (Form.cnts acc:Int) (fun h hh hd=>by rw [hlen h hh hd];exact hnN) ?_
   refine Tr.step (fun m=>by rw [zeK]) (Tr.bind (put_tr (hb n hnN) (fun y hy=>fl_ok (hF n hnN) hy) ha) ?_)
   cases hx:x.fl (nthR x n hs) with
   | none =>
     have e:rowF (fun i=>x.fl (nthR x i hs)) n (j+1)=none:=by rw [rowF];simp only [hx]
     rw [e,resI_none];exact Tr.tt rfl Tr.val
   | some y =>
     have e:resI f acc (fapp (rowF (fun i=>x.fl (nthR x i hs)) n (j+1)) o)=resI f (acc++[y]) (fapp (rowF (fun i=>x.fl (nthR x i hs)) (n+1) j) o):=by
      rw [rowF]
      simp only [hx]
      cases rowF (fun i=>x.fl (nthR x i hs)) (n+1) j with
      | none=>simp only [resI_none]
      | some ys=>simp only [resI_app,List.append_assoc,List.singleton_append]
     rw [e]
     dsimp only
     by_cases hc:Form.cnts (acc++[y])≤400
     ·rw [decide_eq_true hc]
      refine Tr.ff rfl (Tr.eq (fun m=>by rw [zaI (by omega),zbM];rfl) (ih (n+1) (by omega) (acc++[y]) hc))
     ·rw [decide_eq_false hc,resI_big (by omega)]
      exact Tr.tt rfl Tr.val
theorem fill_l4_tr (k:Nat) (x:Form) (acc:List Form) (hsl:hs.length≤20) (hok:∀ h∈hs,h.isOk=true) {v:Form × Bool} (R:Int→Form × Bool)
  (hK:∀ N:Int,cntR x (-1) hs=some N→Tr (fun m=>zeL m f hs (k:Int) f.kind (⟨#[]⟩:ByteArray) f.n ([]:List Int) acc (Form.cnts acc:Int) x N (deepI x hs 0)) (R N)) :
  Tr (fun m=>zcb m f hs (k:Int) f.kind (⟨#[]⟩:ByteArray) f.n ([]:List Int) acc (Form.cnts acc:Int) x 0 ([]:List Int) (-1)) (match cntR x (-1) hs with
   | none=>(zcr,false)
   | some N=>R N):=by
 have key:=zac hs (fun j zs=>∀ (ds:List Int) (n:Int),ds++deepI x zs j=deepI x hs 0→cntR x n zs=cntR x (-1) hs→ds.length≤j→Tr (fun m=>zcb m f hs (k:Int) f.kind (⟨#[]⟩:ByteArray) f.n ([]:List Int) acc (Form.cnts acc:Int) x (j:Int) ds n) (match cntR x (-1) hs with
   | none=>(zcr,false)
   | some N=>R N)) ?_ ?_ 0 (Nat.zero_le _) [] (-1) (by simp) (by simp) (Nat.le_refl _)
 ·exact key
 ·intro ds n h1 h2 _
  rw [deepI,List.append_nil] at h1
  rw [cntR] at h2
  have hk:=hK n h2.symm
  rw [← h2,h1]
  exact Tr.step (fun m=>by rw [zcb,zW,cond_false]) hk
 ·intro j h zs hj hx hd ih ds n h1 h2 hl
  have hm:=List.mem_of_getElem? hx
  refine Tr.step (fun m=>by rw [zcb,ltN hj,cond_true,zG hx,Option.bind_some]) (Tr.bind (eachFill_tr h x) ?_)
  rw [deepI] at h1
  rw [cntR] at h2
  have e:Tr (fun m=>zde m f hs (k:Int) f.kind (⟨#[]⟩:ByteArray) f.n ([]:List Int) acc (Form.cnts acc:Int) x (j:Int) ds n h (!zft x h)) (match cntR x (-1) hs with
   | none=>(zcr,false)
   | some N=>R N):=by
   cases hb:zft x h with
   | false =>
     rw [hb,cond_false,List.nil_append] at h1
     rw [hb,cond_false] at h2
     exact Tr.step (fun m=>by rw [zde,Bool.not_false,cond_true,zbM]) (ih ds n h1 h2 (by omega))
   | true =>
     rw [hb,cond_true] at h1 h2
     refine Tr.step (fun m=>by rw [zde,Bool.not_true,cond_false]) (Tr.chk (decide_eq_true (by simp;omega)) ?_)
     have j6:∀ b:Bool,(decide (0≤n)&&decide (n≠(h.many.length:Int)))=b→Tr (fun m=>zdd m f hs (k:Int) f.kind (⟨#[]⟩:ByteArray) f.n ([]:List Int) acc (Form.cnts acc:Int) x (j:Int) ds h b) (match cntR x (-1) hs with
      | none=>(zcr,false)
      | some N=>R N):=by
      intro b hbb
      rw [hbb] at h2
      cases b with
      | true =>
        rw [cond_true] at h2
        rw [← h2]
        exact Tr.step (fun m=>by rw [zdd,cond_true]) Tr.val
      | false =>
        rw [cond_false] at h2
        exact Tr.step (fun m=>by rw [zdd,cond_false,zbM]) (ih (ds++[(j:Int)]) _ (by rw [List.append_assoc];exact h1) h2 (by simp;omega))
     by_cases hn:0≤n
     ·exact Tr.tt (decide_eq_true hn) (j6 _ (by rw [decide_eq_true hn,Bool.true_and]))
     ·exact Tr.ff (decide_eq_false hn) (j6 _ (by rw [decide_eq_false hn,Bool.false_and]))
  unfold zft at e
  cases hp:Form.part h.name x with
  | false =>
    rw [hp,Bool.false_and,Bool.not_false] at e
    exact Tr.tt rfl e
  | true =>
    rw [hp,Bool.true_and,Bool.not_not] at e
    exact Tr.ff rfl e
theorem fill_l1_tr {l:List (Form × Int)} {v:Nat} (hF:zhS l v hs f) (hw:f.w≤2 ^ 30) (ih:∀ x∈f.kids,∀ v' hs',zhS l v' hs' x→Tr (fun m=>zdQ m x hs') (match x.fl hs' with
  | some y=>(y,true)
  | none=>(zcr,false))):∀ (rest:List Form) (k:Nat) (acc:List Form),f.kids.drop k=rest→k≤f.kids.length→Form.cnts acc≤400 →
  Tr (fun m=>zbW m f hs (k:Int) f.kind (⟨#[]⟩:ByteArray) f.n ([]:List Int) acc (Form.cnts acc:Int)) (resI f acc (Form.fls rest hs))
 | [],k,acc,hd,hk,ha=>by
   have:k=f.kids.length:=by have:=congrArg List.length hd;rw [List.length_drop] at this;simp at this;omega
   subst this
   rw [Form.fls,resI_some,List.append_nil,decide_eq_true ha,cond_true]
   exact Tr.step (fun m=>by rw [zbW,zW,cond_false]) Tr.val
 | x::xs,k,acc,hd,hk,ha=>by
   obtain ⟨hx,hd2,hlt⟩:=zg8 hd
   have hm:=List.mem_of_getElem? hx
   have hfw:=f.w_kids
   have hkl:=Form.ws_len f.kids
   refine Tr.step (fun m=>by rw [zbW,ltN hlt,cond_true,zG hx,Option.bind_some]) (Tr.bind (zeQ x _) ?_)
   rw [Form.fls_eq]
   have hgo:=fill_l1_tr hF hw ih xs (k+1) 
   cases hdx:zC x with
   | true =>
     rw [cond_true]
     exact Tr.tt hdx (Tr.eq (fun m=>by rw [zbM]) (hgo acc hd2 hlt ha))
   | false =>
     rw [cond_false]
     refine Tr.ff hdx ?_
     have one:zdu xs=false→Tr (fun m=>zbX m f hs (k:Int) f.kind (⟨#[]⟩:ByteArray) f.n ([]:List Int) acc (Form.cnts acc:Int) x true) (resI f acc (fapp (match x.fl hs with
       | none=>none
       | some y=>some [y]) (Form.fls xs hs))):=by
      intro hn
      have hFx:=hF.kid hx hdx (by rw [hd2];exact hn)
      refine Tr.step (fun m=>by rw [zbX,cond_true]) (Tr.bind (put_tr (ih x hm v hs hFx) (fun y hy=>fl_ok hFx hy) ha) ?_)
      cases hxf:x.fl hs with
      | none=>rw [resI_none];exact Tr.tt rfl Tr.val
      | some y =>
        simp only
        rw [resI_app]
        by_cases hc:Form.cnts (acc++[y])≤400
        ·rw [decide_eq_true hc]
         exact Tr.ff rfl (Tr.eq (fun m=>by rw [zbM];rfl) (hgo (acc++[y]) hd2 hlt hc))
        ·rw [decide_eq_false hc,resI_big (by omega)]
         exact Tr.tt rfl Tr.val
     rcases next_get hd with ⟨hz,hl⟩ | ⟨y,ys,hz,hy,hl⟩
     ·subst hz
      rw [show zdu ([]:List Form)=false from rfl,cond_false]
      exact Tr.tt (decide_eq_true (by omega)) (one rfl)
     ·refine Tr.ff (decide_eq_false (by omega)) (Tr.eq (fun m=>by rw [zbM,zG hy,Option.bind_some]) (Tr.bind (zeQ y _) ?_))
      have hnx:zdu xs=zC y:=by rw [hz];rfl
      cases hdy:zC y with
      | false =>
        rw [hnx,hdy,cond_false]
        have:=one (by rw [hnx,hdy])
        refine Tr.eq (fun m=>?_) this
        show zbX m f hs _ _ _ _ _ _ _ x (!zC y)=_
        rw [hdy];rfl
      | true =>
        rw [hnx,hdy,cond_true]
        obtain ⟨r1,r2⟩:=hF.row hx hdx (by rw [hd2,hnx,hdy])
        obtain ⟨hall,hsl⟩:=zia hF.hv
        refine Tr.eq (G:=fun m=>zbX m f hs (k:Int) f.kind (⟨#[]⟩:ByteArray) f.n ([]:List Int) acc (Form.cnts acc:Int) x false) (fun m=>?_) ?_
        ·show zbX m f hs _ _ _ _ _ _ _ x (!zC y)=_
         rw [hdy];rfl
        refine Tr.step (fun m=>by rw [zbX,cond_false]) ?_
        have h4:=fill_l4_tr (f:=f) (hs:=hs) k x acc hsl hall (v:=(zcr,false)) (fun N=>resI f acc (fapp (rowF (fun i=>x.fl (nthR x i hs)) 0 N.toNat) (Form.fls xs hs))) (fun N hN=>by
         obtain ⟨c0,c1,c2⟩:=cntR_lt hF.hv r1 hN
         have hFi:∀ i,i < N.toNat→zhS l (v+1) (nthR x i hs) x:=fun i hi=>r2 i (fun h hh hdp=>by rw [c2 h hh hdp];exact hi)
         have:=fill_l7_tr (f:=f) (hs:=hs) k x (by omega) N.toNat (by omega) hsl c2 (fun i hi=>ih x hm (v+1) _ (hFi i hi)) hFi (o:=Form.fls xs hs) (fun acc' ha'=>hgo acc' hd2 hlt ha') N.toNat 0 (by omega) acc ha
         rw [Int.toNat_of_nonneg c0] at this
         exact Tr.step (fun m=>by rw [zeL];rfl) this)
        cases hc:cntR x (-1) hs with
        | none=>rw [hc] at h4;rw [resI_none];exact h4
        | some N=>rw [hc] at h4;exact h4
end
theorem implFill_n (l:List (Form × Int)):∀ (n:Nat) (f:Form),f.w≤n→f.w≤2 ^ 30→∀ v hs,zhS l v hs f→Tr (fun m=>zdQ m f hs) (match f.fl hs with
  | some y=>(y,true)
  | none=>(zcr,false)):=by
 intro n
 induction n with
 | zero=>intro f h;have:=f.w_kids;omega
 | succ n ih =>
   intro f hn hw v hs hF
   have hfw:=f.w_kids
   rw [Form.fl_eq]
   refine Tr.step (fun m=>by rw [zdQ]) ?_
   obtain ⟨d,hok⟩:=hF.ok
   by_cases h1:f.kind=1
   ·rw [decide_eq_true h1,cond_true]
    refine Tr.tt rfl (Tr.bind (hitAt_tr hs f) ?_)
    unfold findO
    rcases hF.leaf with hl | ⟨i,h,hl,hi,h0,hv⟩
    ·rw [hl]
     exact Tr.ff rfl (Tr.bind (zgB f (by omega)) Tr.val)
    ·rw [hl,decide_eq_true (by omega),cond_true,Int.toNat_natCast,List.getD_eq_getElem?_getD,hi,Option.getD_some]
     have:=valid_w hv
     exact Tr.tt rfl (Tr.eq (fun m=>by rw [zG hi,Option.bind_some]) (Tr.bind (zgB h.one (by omega)) Tr.val))
   ·rw [decide_eq_false h1,cond_false]
    refine Tr.ff rfl ?_
    have:=fill_l1_tr hF hw (fun x hx v' hs' hF'=>ih x (by have:=Form.ws_mem hx;omega) (by have:=Form.ws_mem hx;omega) v' hs' hF') f.kids 0 [] (by rw [List.drop_zero]) (Nat.zero_le _) (by rw [Form.cnts];omega)
    obtain ⟨e1,e2,_⟩:=isOk_node (ys:=[]) hok h1 (.inr rfl) (D:=0) (fun y hy=>by cases hy)
    cases hf:Form.fls f.kids hs with
    | none=>rw [hf] at this;exact this
    | some ys =>
      rw [hf] at this
      rw [resI_some,List.nil_append] at this
      simp only
      rw [e1,e2]
      cases hc:decide (Form.cnts ys≤400) with
      | true=>rw [hc,cond_true] at this;rw [cond_true];exact this
      | false=>rw [hc,cond_false] at this;rw [cond_false];exact this
end Go.Abs
end
section
set_option linter.unusedVariables false
set_option linter.unusedSimpArgs false
namespace Go.Abs
noncomputable def fillV (o:Option Form):Form × Bool:=match o with
 | some y=>bif y.valid then (y,true) else (zcr,false)
 | none=>(zcr,false)
noncomputable def fillT (t:Form) (hs:List Hit):Form × Bool:=bif hvOk hs&&tmplOk t (nd hs) then fillV (t.fl hs) else (zcr,false)
theorem tmplOk_parts {t:Form} {l:List (Form × Int)} (h:tmplOk t l=true):t.valid=true∧zC t=false∧t.dotsOk false=true∧t.rws l 0=true:=by
 unfold tmplOk at h
 simp only [Bool.and_eq_true,Bool.not_eq_true'] at h
 exact ⟨h.1,h.2.1,h.2.2.1,h.2.2.2⟩
theorem fillS_of {t:Form} {hs:List Hit} (hv:hvOk hs=true) (ht:tmplOk t (nd hs)=true):zhS (nd hs) 0 hs t:=by
 obtain ⟨h1,h2,h3,h4⟩:=tmplOk_parts ht
 unfold Form.valid at h1
 rw [Bool.and_eq_true] at h1
 exact ⟨hv,h4,⟨40,h1.1⟩,fun g _ _=>by simp⟩
theorem implFillTemplate_tr (t:Form) (hs:List Hit) (hf:t.fit) (hb:t.w≤2 ^ 36) (hl:Hit.fits hs) (hlb:Hit.ws hs≤2 ^ 36) (hfo:∀ y,t.fl hs=some y→y.fit):Tr (fun m=>zdr m t hs) (fillT t hs):=by
 refine Tr.eq (fun m=>by unfold zdr;rfl) (Tr.bind (implTemplateValid_tr t hs hf hb hl hlb) ?_)
 unfold fillT
 cases hg:(hvOk hs&&tmplOk t (nd hs)) with
 | false=>exact Tr.tt rfl Tr.val
 | true =>
 rw [Bool.and_eq_true] at hg
 have hS:=fillS_of hg.1 hg.2
 have hw:=valid_w (tmplOk_parts hg.2).1
 refine Tr.ff rfl (Tr.bind (implFill_n (nd hs) _ t (Nat.le_refl _) (by omega) 0 hs hS) ?_)
 rw [cond_true]
 unfold fillV
 cases hfl:t.fl hs with
 | none=>exact Tr.tt rfl Tr.val
 | some y =>
   have hyw:=(fl_ok hS hfl).w
   dsimp only
   refine Tr.eq (fun m=>by rw [Bool.not_true,cond_false]) (Tr.bind (v:=bif y.valid then (y,true) else (zcr,false)) ?_ ?_)
   ·refine Tr.eq (fun m=>by unfold zg4;rfl) (Tr.bind (zdy y (hfo y hfl)) ?_)
    cases y.valid with
    | false=>exact Tr.tt rfl Tr.val
    | true=>exact Tr.ff rfl (Tr.bind (zgB y (by omega)) Tr.val)
   ·cases y.valid<;>exact Tr.val
theorem rowF_all {P:Form→Prop} {D:Nat→Option Form} (hD:∀ i y,D i=some y→P y):∀ {k n:Nat} {r:List Form},rowF D n k=some r→∀ y∈r,P y:=fun h y hy=>by
 obtain ⟨i,_,_,hi⟩:=rowF_mem h y hy
 exact hD i y hi
theorem nthR_fit {x:Form} {n:Nat}:∀ {hs:List Hit},Hit.fits hs→Hit.fits (nthR x n hs)
 | [],h=>h
 | h::hs,hf=>by
   rw [Hit.fits] at hf
   show Hit.fits ((bif zft x h then h.many.getD n hit0 else h)::nthR x n hs)
   rw [Hit.fits]
   refine ⟨?_,nthR_fit hf.2⟩
   cases zft x h with
   | false=>exact hf.1
   | true =>
     rw [cond_true]
     by_cases hn:n < h.many.length
     ·have hm:=many_mem hn
      have:=hf.1
      obtain ⟨a,b,c,d⟩:=h
      rw [Hit.fit] at this
      exact Hit.fits_mem this.2.2.2 hm
     ·rw [List.getD_eq_getElem?_getD,List.getElem?_eq_none (by omega)];exact hit0_fit
theorem hit_one_fit {h:Hit} (hf:h.fit):h.one.fit:=by
 obtain ⟨a,b,c,d⟩:=h
 rw [Hit.fit] at hf
 exact hf.2.1
theorem fl_fit_n:∀ (n:Nat) (f:Form),f.w≤n→f.fit→∀ hs,Hit.fits hs→∀ y,f.fl hs=some y→y.fit:=by
 intro n
 induction n with
 | zero=>intro f h;have:=f.w_kids;omega
 | succ n ih =>
   intro f hn hf hs hl y hy
   have hw:=f.w_kids
   rw [Form.fl_eq] at hy
   by_cases h1:f.kind=1
   ·rw [decide_eq_true h1,cond_true] at hy
    cases hy
    unfold findO
    cases hd:decide (0≤hAt hs f) with
    | false=>exact hf
    | true =>
      rw [cond_true]
      rcases fnd_at (D:=fun y:Hit=>same y.name f) (l:=hs) (k:=0) with ⟨h2,_⟩ | ⟨i,h,h2,h3,_,_⟩
      ·have:=of_decide_eq_true hd
       unfold hAt at this;omega
      ·unfold hAt
       rw [h2,Nat.zero_add,Int.toNat_natCast,List.getD_eq_getElem?_getD,h3,Option.getD_some]
       exact hit_one_fit (Hit.fits_mem hl (List.mem_of_getElem? h3))
   ·rw [decide_eq_false h1,cond_false] at hy
    cases hfs:Form.fls f.kids hs with
    | none=>simp [hfs] at hy
    | some ys =>
      rw [hfs] at hy
      simp only at hy
      cases hc:decide (Form.cnts ys≤400) with
      | false=>rw [hc] at hy;cases hy
      | true =>
        rw [hc,cond_true] at hy
        cases hy
        have key:∀ (zs:List Form),(∀ x∈zs,x∈f.kids)→∀ r,Form.fls zs hs=some r→∀ y∈r,y.fit:=by
         intro zs
         induction zs with
         | nil=>intro _ r hr y hy;rw [Form.fls] at hr;cases hr;cases hy
         | cons x xs ihz =>
           intro hm r hr y hy
           have hxm:=hm x (by simp)
           have hxw:=Form.ws_mem hxm
           have hxf:=Form.fits_mem hf.parts.2.2.2 hxm
           rw [Form.fls_eq] at hr
           cases hdx:zC x with
           | true=>rw [hdx,cond_true] at hr;exact ihz (fun z hz=>hm z (by simp [hz])) r hr y hy
           | false =>
             rw [hdx,cond_false] at hr
             obtain ⟨a,b,ha,hb,rfl⟩:=fapp_some hr
             rcases List.mem_append.1 hy with hy | hy
             ·cases hnx:zdu xs with
              | false =>
                rw [hnx,cond_false] at ha
                cases hxfl:x.fl hs with
                | none=>rw [hxfl] at ha;cases ha
                | some z =>
                  rw [hxfl] at ha;cases ha
                  rw [List.mem_singleton] at hy;subst hy
                  exact ih x (by omega) hxf hs hl _ hxfl
              | true =>
                rw [hnx,cond_true] at ha
                cases hcn:cntR x (-1) hs with
                | none=>rw [hcn] at ha;cases ha
                | some N =>
                  rw [hcn] at ha
                  exact rowF_all (fun i y hiy=>ih x (by omega) hxf _ (nthR_fit hl) y hiy) ha y hy
             ·exact ihz (fun z hz=>hm z (by simp [hz])) b hb y hy
        have hcl:=cnts_len ys
        have hc:=of_decide_eq_true hc
        have hp:=hf.parts
        rw [Form.fit]
        exact ⟨hp.1,hp.2.1,by omega,Form.fits_of_mem (key f.kids (fun x hx=>hx) ys hfs)⟩
theorem fl_fit {f y:Form} {hs:List Hit} (hf:f.fit) (hl:Hit.fits hs) (h:f.fl hs=some y):y.fit:=fl_fit_n _ f (Nat.le_refl _) hf hs hl y h
theorem kD_prev:∀ {zs:List Form} {pd sn:Bool} {i:Nat} {x:Form},Form.kD false pd sn zs=true→zs[i]?=some x→zC x=true→(i=0∧pd=false)∨∃ j y,i=j+1∧zs[j]?=some y∧zC y=false
 | z::zs,pd,sn,0,x,h,hx,hd=>by
   simp at hx;subst hx
   rw [Form.kD,hd,cond_true,Bool.and_eq_true,Bool.and_eq_true,Bool.not_eq_true'] at h
   exact .inl ⟨rfl,h.1.1⟩
 | z::zs,pd,sn,i+1,x,h,hx,hd=>by
   rw [Form.kD,Bool.and_eq_true] at h
   rcases kD_prev (zs:=zs) (i:=i) h.2 (by simpa using hx) hd with ⟨rfl,h2⟩ | ⟨j,y,rfl,hy,hyd⟩
   ·exact .inr ⟨0,z,rfl,rfl,h2⟩
   ·exact .inr ⟨j+1,y,rfl,by simpa using hy,hyd⟩
theorem zhS.plain {l:List (Form × Int)} {v:Nat} {hs:List Hit} {f:Form} (hF:zhS l v hs f) (hd:f.dotsOk false=true) (hno:∀ h∈hs,Form.part h.name f=false):∀ x∈f.kids,zC x=false:=by
 intro x hx
 rw [Bool.eq_false_iff]
 intro hdx
 obtain ⟨i,hi⟩:=List.getElem?_of_mem hx
 rw [Form.dotsOk_eq] at hd
 rcases kD_prev hd hi hdx with ⟨_,h⟩ | ⟨j,y,rfl,hy,hyd⟩
 ·cases h
 ·have hnx:zdu (f.kids.drop (j+1))=true:=by
   rw [drop_get hi];exact hdx
  obtain ⟨⟨h,hm,hdp⟩,_⟩:=hF.row hy hyd hnx
  unfold zft at hdp
  rw [Bool.and_eq_true] at hdp
  have:=part_kid (List.mem_of_getElem? hy) hdp.1
  rw [hno h hm] at this;cases this
end Go.Abs
end
section
set_option linter.unusedVariables false
set_option linter.unusedSimpArgs false
namespace Go.Abs
noncomputable def applyR (bs:List Bind) (rules:List Rule) (lits:List Form) (f:Form):Form × Bool :=
 bif (zhP bs rules lits f).2 then
  (match rules[(zhP bs rules lits f).1.toNat]? with
   | some r=>fillT r.template ((r.pattern.mt bs lits f).getD [])
   | none=>(zcr,false))
 else (zcr,false)
theorem firstR_cases (bs:List Bind) (rules:List Rule) (lits:List Form) (f:Form):(zhP bs rules lits f=(0,false))∨∃ (i:Nat) (r:Rule) (h:List Hit),zhP bs rules lits f=((i:Int),true)∧rules[i]?=some r∧r.pattern.mt bs lits f=some h∧bvOk bs=true∧zbs rules lits=true∧f.valid=true∧∀ y∈rules.take i,ruleM bs lits f y=false:=by
 unfold zhP
 cases hg:(bvOk bs&&(zbs rules lits&&f.valid)) with
 | false=>exact .inl rfl
 | true =>
   rw [cond_true]
   simp only [Bool.and_eq_true] at hg
   rcases fstR_cases (ruleM bs lits f) rules with ⟨h1,_⟩ | ⟨i,x,h1,h2,h3,h4⟩
   ·exact .inl h1
   ·unfold ruleM at h3
    obtain ⟨h,hh⟩:=Option.isSome_iff_exists.1 h3
    exact .inr ⟨i,x,h,h1,h2,hh,hg.1,hg.2.1,hg.2.2,h4⟩
theorem mt_light {bs:List Bind} {p f:Form} {lits:List Form} {h:List Hit} (hp:patOk p lits=true) (hf:f.valid=true) (hm:p.mt bs lits f=some h):Hit.ws h≤2 ^ 30:=by
 have:=mt_w (patOk_S hp) hm
 have h1:=patOk_w hp
 have h2:=valid_w hf
 have h4:p.w*f.w≤10400*10400:=Nat.mul_le_mul h1 h2
 omega
section
variable (bs:List Bind) (rules:List Rule) (lits:List Form) (f:Form) (hb:∀ b∈bs,b.fit) (hbl:bs.length≤2 ^ 36) (hr:RulesF rules) (hl:Form.fits lits) (hf:f.fit)
include hb hbl hr hl hf
theorem implApply_tr:Tr (fun m=>zdk m bs rules lits f) (applyR bs rules lits f):=by
 refine Tr.eq (fun m=>by unfold zdk;rfl) (Tr.bind (implFirst_tr bs rules lits f hb hbl hr hl hf) ?_)
 unfold applyR
 rcases firstR_cases bs rules lits f with e | ⟨i,r,h,e,h1,h2,h3,h4,h5,_⟩
 ·rw [e];exact Tr.tt rfl Tr.val
 ·rw [e]
  have hm:=List.mem_of_getElem? h1
  have hok:=(zhc h4).1 r hm
  have hp:=ruleOk_pat hok
  have hpw:=patOk_w hp
  have hfw:=valid_w h5
  have hrf:=hr.fit r hm
  refine Tr.ff rfl (Tr.eq (fun m=>by rw [zG h1,Option.bind_some]) (Tr.bind (implMatch_n bs lits hbl hb h3 _ r.pattern (Nat.le_refl _) (patOk_S hp) hrf.1 (by omega) f h5 hf (by omega)) ?_))
  rw [h2]
  simp only [cond_true,Int.toNat_natCast,h1]
  have hfit:=mt_fit hrf.1 hf h2
  have hw:=mt_light hp h5 h2
  refine Tr.eq (fun m=>by rw [Option.bind_some];rfl) (Tr.bind (implFillTemplate_tr r.template h hrf.2 (hr.tw r hm) hfit (by omega) (fun y hy=>fl_fit hrf.2 hfit hy)) ?_)
  rw [h2];exact Tr.val
end
theorem applyR_none {bs:List Bind} {rules:List Rule} {lits:List Form} {f:Form} (h:zhP bs rules lits f=(0,false)):applyR bs rules lits f=(zcr,false):=by
 unfold applyR;rw [h];rfl
theorem applyR_some {bs:List Bind} {rules:List Rule} {lits:List Form} {f:Form} {i:Nat} {r:Rule} {hs:List Hit} (h:zhP bs rules lits f=((i:Int),true)) (h1:rules[i]?=some r) (h2:r.pattern.mt bs lits f=some hs):applyR bs rules lits f=fillT r.template hs:=by
 unfold applyR;rw [h];simp only [cond_true,Int.toNat_natCast,h1,h2,Option.getD_some]
end Go.Abs
end
