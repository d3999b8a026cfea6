/- A part of the proof: what the functions that the law calls answer, as pure values. -/
import Derived.KernelRfl
import Derived.Test.YtcllpfmjggkpnaaGreatKcd1b73107f87
import Derived.Test.YtcllpfmjggkpnaaGreatK901cfc26645b
import Derived.Test.YtcllpfmjggkpnaaGreatKa8136476e481
import Derived.Test.YtcllpfmjggkpnaaGreatKd1908faef63e
set_option linter.unusedSimpArgs false
set_option linter.unusedVariables false
section
set_option linter.unusedVariables false
set_option linter.unusedSimpArgs false
namespace Go.Abs
theorem zfr:∀ (n:Nat) (f:Form),f.w≤n→f.w≤2 ^ 36→Tr (fun m=>za4 m f) f:=by
 intro n
 induction n with
 | zero=>intro f h _;have:=f.w_kids;omega
 | succ n ih =>
   intro f h hb
   have hw:=f.w_kids
   have hl:=Form.ws_len f.kids
   refine Tr.step (fun m=>by rw [za4]) ?_
   refine Tr.chk (by simp;omega) ?_
   have key:=zak f.kids (fun k ys=>∀ acc:List Form,acc.length=k→Tr (fun m=>zcv m f (k:Int) acc) (Form.mk f.kind f.name f.n f.scopes (acc++ys))) ?_ ?_ 0 (Nat.zero_le _) [] rfl
   ·rw [List.drop_zero,List.nil_append] at key
    obtain ⟨a,b,c,d,e⟩:=f
    exact key
   ·intro acc _
    refine Tr.step (fun m=>by rw [zcv,z6]) ?_
    rw [List.append_nil];exact Tr.val
   ·intro k x xs hk hx hd ihk acc hacc
    have hmem:x∈f.kids:=List.mem_of_getElem? hx
    have hxw:=Form.ws_mem hmem
    refine Tr.step (fun m=>by rw [zcv,ltN hk,zE hx,zbp]) ?_
    refine Tr.bind (ih x (by omega) (by omega)) ?_
    refine Tr.chk (by simp;omega) ?_
    have:=ihk (acc++[x]) (by simp;exact hacc)
    rwa [List.append_assoc] at this
theorem Tr.add {α:Type} {F:Nat→Option α} {v:α} (n:Nat) (h:∀ k,F (k+n)=some v):Tr F v:=⟨n,fun m hm=>by
 have:=h (m-n)
 rwa [Nat.sub_add_cancel hm] at this⟩
theorem Form.ws_set:∀ (l:List Form) (i:Nat) (x:Form) (B:Nat),(∀ y,l[i]?=some y→x.w≤y.w+B)→Form.ws (l.set i x)≤Form.ws l+B
 | [],i,x,B,_=>by simp [Form.ws]
 | y::l,0,x,B,h=>by
   have:=h y rfl
   rw [List.set_cons_zero,Form.ws,Form.ws];omega
 | y::l,i+1,x,B,h=>by
   have:=Form.ws_set l i x B (fun z hz=>h z (by simpa using hz))
   rw [List.set_cons_succ,Form.ws,Form.ws];omega
theorem Form.fits_set:∀ (l:List Form) (i:Nat) (x:Form),Form.fits l→x.fit→Form.fits (l.set i x)
 | [],i,x,h,_=>by simpa using h
 | y::l,0,x,h,hx=>by
   rw [Form.fits] at h;rw [List.set_cons_zero,Form.fits];exact ⟨hx,h.2⟩
 | y::l,i+1,x,h,hx=>by
   rw [Form.fits] at h;rw [List.set_cons_succ,Form.fits];exact ⟨h.1,Form.fits_set l i x h.2 hx⟩
def mutF (v1:Form) (o1:zba) (fuel:Nat):Option (Form × zba) :=
 (zL fuel o1 14).bind fun v9 =>
 (bif (decide (v9.1=0)) then
 (zaq fuel v9.2 [0,4,1,3]).bind fun v11 =>
 some ((Form.mk v11.1 v1.name v1.n v1.scopes v1.kids),v11.2)
 else
 (bif (decide (v9.1=1)) then
 (zbs fuel v9.2 [(⟨#[]⟩:ByteArray),(⟨#[65]⟩:ByteArray),(⟨#[116,111,111,108,111,110,103,97,110,97,109,101,49]⟩:ByteArray),(⟨#[122]⟩:ByteArray),(⟨#[120,32,121]⟩:ByteArray)]).bind fun v13 =>
 some ((Form.mk v1.kind v13.1 v1.n v1.scopes v1.kids),v13.2)
 else
 (bif (decide (v9.1=2)) then
 (zaq fuel v9.2 [1000,(-1),5]).bind fun v15 =>
 some ((Form.mk v1.kind v1.name v15.1 v1.scopes v1.kids),v15.2)
 else
 (bif (decide (v9.1=3)) then
 (zaq fuel v9.2 [0,100,1,50]).bind fun v17 =>
 chk (decide ((v1.scopes.length+[v17.1].length)*8≤140737488355328)) <|
 some ((Form.mk v1.kind v1.name v1.n (v1.scopes++[v17.1]) v1.kids),v17.2)
 else
 some (v1,v9.2)))))
theorem mutF_tq (v1:Form) (o:zba) (K:Int) (h:OkRd o K) (hK:K+2≤1000000000) (hw:v1.w≤2 ^ 36) (hf:v1.fit):TQ (mutF v1 o) (fun r=>OkRd r.2 (K+2)∧r.1.w≤v1.w+1∧r.1.fit):=by
 have hk:=v1.w_kids
 obtain ⟨f1,f2,f3,f4⟩:=hf.parts
 unfold mutF
 refine TQ.bind (zeT o 14 _ h (by omega)) (fun v hv=>?_)
 refine TQ.cond (fun _=>?_) (fun _=>TQ.cond (fun _=>?_) (fun _=>TQ.cond (fun _=>?_) (fun _=>TQ.cond (fun _=>?_) (fun _=>?_))))
 ·exact TQ.bind (num_tq _ _ _ hv.1 (by omega) (by decide)) (fun w hw=>TQ.val ⟨hw.1.mono (by omega),by simp only [Form.w];omega,by rw [Form.fit];exact ⟨f1,f2,f3,f4⟩⟩)
 ·exact TQ.bind (of_tq _ _ _ hv.1 (by omega) (by decide)) (fun w hw=>TQ.val ⟨hw.1.mono (by omega),by simp only [Form.w];omega,by
   rw [Form.fit]
   refine ⟨?_,f2,f3,f4⟩
   have h2:=hw.2
   simp only [List.mem_cons,List.not_mem_nil,or_false] at h2
   rcases h2 with h2 | h2 | h2 | h2 | h2<;>rw [h2]<;>decide⟩)
 ·exact TQ.bind (num_tq _ _ _ hv.1 (by omega) (by decide)) (fun w hw=>TQ.val ⟨hw.1.mono (by omega),by simp only [Form.w];omega,by rw [Form.fit];exact ⟨f1,f2,f3,f4⟩⟩)
 ·exact TQ.bind (num_tq _ _ _ hv.1 (by omega) (by decide)) (fun w hw=>TQ.chk (by simp;omega) (TQ.val ⟨hw.1.mono (by omega),by simp only [Form.w,List.length_append,List.length_cons,List.length_nil];omega,by rw [Form.fit];exact ⟨f1,by simp only [List.length_append,List.length_cons,List.length_nil];omega,f3,f4⟩⟩))
 ·exact TQ.val ⟨hv.1.mono (by omega),Nat.le_succ _,hf⟩
theorem zg5:∀ (n:Nat) (c:Form) (o:zba) (K:Int),c.w≤n→OkRd o K→c.w≤2 ^ 30→c.fit→K+3*c.w≤1000000000→TQ (fun m=>zao m o c) (fun r=>OkRd r.2 (K+3*c.w)∧r.1.w≤c.w+1∧r.1.fit):=by
 intro n
 induction n with
 | zero=>intro c o K h;have:=c.w_kids;omega
 | succ n ih =>
   intro c o K h ho hb hf hK
   have hw:=c.w_kids
   obtain ⟨f1,f2,f3,f4⟩:=hf.parts
   refine TQ.step (fun m=>by rw [zao]) ?_
   refine TQ.ev (zfr _ c (Nat.le_refl _) (by omega)) ?_
   refine TQ.cond (fun hc=>?_) (fun _=>?_)
   ·have hpos:0 < c.kids.length:=by simpa using hc
    have hl:=Form.ws_len c.kids
    refine TQ.bind (zeT o 2 _ ho (by omega)) (fun v hv=>?_)
    refine TQ.cond (fun _=>?_) (fun _=>?_)
    ·refine TQ.bind (zeT _ _ _ hv.1 (by omega)) (fun w hw2=>?_)
     obtain ⟨h1,_,h2,_⟩:=hw2
     obtain ⟨h2,h3⟩:=h2 (by omega)
     obtain ⟨x,hx,hm⟩:=idx_int h2 h3
     have hxw:=Form.ws_mem hm
     have hx2:=(zfI hx).2.2
     obtain ⟨r,hr,q1,q2,q3⟩:=ih x w.2 _ (by omega) h1 (by omega) (Form.fits_mem f4 hm) (by omega)
     refine ⟨_,Tr.idx hx (Tr.bind hr (Tr.idx hx Tr.val)),q1.mono (by omega),?_,?_⟩
     ·have:=Form.ws_set c.kids w.1.toNat r.1 1 (fun y hy=>by rw [hx2] at hy;cases hy;exact q2)
      simp only [Form.w];omega
     ·rw [Form.fit];exact ⟨f1,f2,by rw [List.length_set];exact f3,Form.fits_set _ _ _ f4 q3⟩
    ·exact (mutF_tq c _ _ hv.1 (by omega) (by omega) hf).mono (fun r hr=>⟨hr.1.mono (by omega),hr.2⟩)
   ·exact (mutF_tq c _ _ ho (by omega) (by omega) hf).mono (fun r hr=>⟨hr.1.mono (by omega),hr.2⟩)
end Go.Abs
end
section
set_option linter.unusedVariables false
set_option linter.unusedSimpArgs false
namespace Go.Abs
theorem Form.fits_app:∀ {a b:List Form},Form.fits a→Form.fits b→Form.fits (a++b)
 | [],b,_,hb=>hb
 | x::a,b,ha,hb=>by rw [Form.fits] at ha;rw [List.cons_append,Form.fits];exact ⟨ha.1,Form.fits_app ha.2 hb⟩
theorem set_mid {α:Type} (d:List α) (x y:α) (zs:List α):(d++x::zs).set d.length y=(d++[y])++zs:=by
 rw [List.set_append_right _ _ (Nat.le_refl _),Nat.sub_self,List.set_cons_zero,List.append_assoc];rfl
theorem dressLoop {L:Nat→Int→List Int→Int→List Form→Option (Form × zba)} {fin:List Form→Form}
  (h0:∀ m k b p acc,L (m+1) k b p acc=bif decide (k < (acc.length:Int)) then (idx acc k).bind fun x=>(zbN m (zba.mk b p) x).bind fun r=>(idx acc k).bind fun _=>L m (k+1) r.2.b r.2.p (acc.set k.toNat r.1) else some (fin acc,zba.mk b p)) :
  ∀ (zs d:List Form) (o:zba) (K:Int),(∀ x∈zs,∀ (o:zba) (K:Int),OkRd o K→K+3*x.w≤1000000000→TQ (fun m=>zbN m o x) (fun r=>OkRd r.2 (K+x.w)∧r.1.w≤4*x.w∧r.1.fit))→OkRd o K→K+3*Form.ws zs≤1000000000→Form.fits d →
    TQ (fun m=>L m (d.length:Int) o.b o.p (d++zs)) (fun r=>∃ e,r.1=fin e∧Form.ws e≤Form.ws d+4*Form.ws zs∧Form.fits e∧e.length=d.length+zs.length∧OkRd r.2 (K+Form.ws zs))
 | [],d,o,K,_,ho,_,hd=>by
   refine TQ.step (fun m=>by rw [h0,List.append_nil,z6,cond_false]) (TQ.val ⟨d,rfl,by simp [Form.ws],hd,by simp,?_⟩)
   simpa [Form.ws] using ho.mk'
 | x::zs,d,o,K,hx,ho,hK,hd=>by
   rw [Form.ws] at hK
   have hi:(d++x::zs)[d.length]?=some x:=by simp
   refine TQ.step (fun m=>by rw [h0,ltN (by simp),cond_true,zE hi,Option.bind_some,Int.toNat_natCast]) ?_
   refine TQ.bind (hx x (by simp) _ K ho.mk' (by omega)) (fun r hr=>?_)
   refine TQ.eq (fun m=>by rw [Option.bind_some,set_mid,show (d.length:Int)+1=((d++[r.1]).length:Int) by simp]) ?_
   refine TQ.mono (dressLoop h0 zs (d++[r.1]) r.2 (K+x.w) (fun y hy=>hx y (by simp [hy])) hr.1 (by omega) (Form.fits_app hd (by rw [Form.fits,Form.fits];exact ⟨hr.2.2,trivial⟩))) (fun q hq=>?_)
   obtain ⟨e,e1,e2,e3,e4,e5⟩:=hq
   refine ⟨e,e1,?_,e3,by rw [e4];simp;omega,e5.mono (by rw [Form.ws];omega)⟩
   rw [Form.ws_append,Form.ws,Form.ws] at e2
   rw [Form.ws];omega
theorem l1Dress_tq:∀ (n:Nat) (c:Form) (o:zba) (K:Int),c.w≤n→OkRd o K→c.w≤2 ^ 30→c.fit→K+3*c.w≤1000000000→TQ (fun m=>zbN m o c) (fun r=>OkRd r.2 (K+c.w)∧r.1.w≤4*c.w∧r.1.fit):=by
 intro n
 induction n with
 | zero=>intro c o K h;have:=c.w_kids;omega
 | succ n ih =>
   intro c o K h ho hb hf hK
   have hw:=c.w_kids
   have hlen:=Form.ws_len c.kids
   obtain ⟨f1,f2,f3,f4⟩:=hf.parts
   have step:∀ x∈c.kids,∀ (o:zba) (K:Int),OkRd o K→K+3*x.w≤1000000000→TQ (fun m=>zbN m o x) (fun r=>OkRd r.2 (K+x.w)∧r.1.w≤4*x.w∧r.1.fit):=fun x hx o K ho hK=>by
    have:=Form.ws_mem hx
    exact ih x o K (by omega) ho (by omega) (Form.fits_mem f4 hx) hK
   refine TQ.step (fun m=>by rw [zbN]) (TQ.ev (zfr _ c (Nat.le_refl _) (by omega)) ?_)
   refine TQ.cond (fun _=>?_) (fun _=>?_)
   ·refine TQ.bind (zeT o _ _ ho (by omega)) (fun v hv=>?_)
    obtain ⟨h1,_,h2,_⟩:=hv
    obtain ⟨h2,h3⟩:=h2 (by decide)
    refine TQ.idx h2 h3 (fun sc hsc=>?_)
    have hsl:sc.length≤3:=by
     simp only [List.mem_cons,List.not_mem_nil,or_false] at hsc
     rcases hsc with h | h | h | h | h | h | h<;>rw [h]<;>decide
    refine TQ.chk (decide_eq_true (by simp only [List.length_nil];omega)) ?_
    have key:=dressLoop (L:=fun m k b p acc=>zcC m c sc k b p acc) (fin:=fun e=>Form.mk c.kind c.name c.n (([]:List Int)++sc) e) (fun m k b p acc=>by rw [zcC]) c.kids [] v.2 (K+1) step h1 (by omega) (by rw [Form.fits];trivial)
    refine TQ.mono key (fun r hr=>?_)
    obtain ⟨e,e1,e2,e3,e4,e5⟩:=hr
    simp only [Form.ws,List.length_nil,Nat.zero_add] at e2 e4
    refine ⟨e5.mono (by omega),?_,?_⟩
    ·rw [e1];simp only [Form.w,List.nil_append];omega
    ·rw [e1,Form.fit];exact ⟨f1,by rw [List.nil_append];omega,by omega,e3⟩
   ·have key:=dressLoop (L:=fun m k b p acc=>zcB m c k b p acc) (fin:=fun e=>Form.mk c.kind c.name c.n c.scopes e) (fun m k b p acc=>by rw [zcB]) c.kids [] o K step ho (by omega) (by rw [Form.fits];trivial)
    refine TQ.mono key (fun r hr=>?_)
    obtain ⟨e,e1,e2,e3,e4,e5⟩:=hr
    simp only [Form.ws,List.length_nil,Nat.zero_add] at e2 e4
    refine ⟨e5.mono (by omega),?_,?_⟩
    ·rw [e1];simp only [Form.w];omega
    ·rw [e1,Form.fit];exact ⟨f1,f2,by omega,e3⟩
end Go.Abs
end
section
set_option linter.unusedVariables false
namespace Go.Abs
mutual
def Form.fitB:Form→Bool
 | .mk _ name _ scopes kids=>decide (name.size≤100)&&(decide (scopes.length≤100)&&(decide (kids.length≤100)&&Form.fitBs kids))
def Form.fitBs:List Form→Bool
 | []=>true
 | f::fs=>f.fitB&&Form.fitBs fs
end
mutual
theorem Form.fitB_fit:∀ {f:Form},f.fitB=true→f.fit
 | .mk a b c d e,h=>by
   rw [Form.fitB] at h
   simp only [Bool.and_eq_true,decide_eq_true_eq] at h
   rw [Form.fit]
   exact ⟨by omega,by omega,by omega,Form.fitBs_fit h.2.2.2⟩
theorem Form.fitBs_fit:∀ {l:List Form},Form.fitBs l=true→Form.fits l
 | [],_=>by rw [Form.fits];trivial
 | f::fs,h=>by
   rw [Form.fitBs,Bool.and_eq_true] at h
   rw [Form.fits];exact ⟨Form.fitB_fit h.1,Form.fitBs_fit h.2⟩
end
structure zdy (s:ByteArray) (f:Form):Prop where
 tr:Tr (fun m=>zdg m s) f
 w:f.w≤100
 fit:f.fit
def Pairs:List (Form × Form)→List (List ByteArray)→Prop
 | [],l=>l=[]
 | p::ps,l=>∃ x xs,l=x::xs∧(∃ a b,x=[a,b]∧zdy a p.1∧zdy b p.2)∧Pairs ps xs
theorem Pairs.mem:∀ {ps:List (Form × Form)} {l:List (List ByteArray)},Pairs ps l→∀ x∈l,∃ p∈ps,∃ a b,x=[a,b]∧zdy a p.1∧zdy b p.2
 | [],l,h,x,hx=>by rw [Pairs] at h;subst h;cases hx
 | p::ps,l,h,x,hx=>by
   rw [Pairs] at h
   obtain ⟨y,ys,rfl,h1,h2⟩:=h
   rcases List.mem_cons.1 hx with rfl | hx
   ·exact ⟨p,by simp,h1⟩
   ·obtain ⟨q,hq,r⟩:=Pairs.mem h2 x hx
    exact ⟨q,by simp [hq],r⟩
end Go.Abs
end
section
set_option linter.unusedVariables false
set_option linter.unusedSimpArgs false
namespace Go.Abs
theorem Form.fits_one {f:Form} (h:f.fit):Form.fits [f]:=by rw [Form.fits,Form.fits];exact ⟨h,trivial⟩
theorem Form.fits_nil:Form.fits []:=by rw [Form.fits];trivial
theorem TQ.same {α:Type} {F:Nat→Option α} {v:α} (h:Tr F v):TQ F (fun r=>r=v):=⟨v,h,rfl⟩
theorem TQ.tr {α:Type} {F:Nat→Option α} {v:α} (h:TQ F (fun r=>r=v)):Tr F v:=by obtain ⟨r,h,rfl⟩:=h;exact h
theorem TQ.at {α β:Type} {l:List α} {i:Int} {x:α} {g:α→Nat→Option β} {R:β→Prop} (hx:Abs.idx l i=some x) (h:TQ (fun m=>g x m) R):TQ (fun m=>(Abs.idx l i).bind fun y=>g y m) R:=by
 obtain ⟨w,hw,hr⟩:=h
 exact ⟨w,Tr.idx hx hw,hr⟩
structure Dr (n:Nat) (f:Form):Prop where
 w:f.w≤n
 fit:f.fit
theorem Dr.mono {n k:Nat} {f:Form} (h:Dr n f) (hk:n≤k):Dr k f:=⟨Nat.le_trans h.w hk,h.fit⟩
theorem zdy.dr {s:ByteArray} {f:Form} (h:zdy s f):Dr 100 f:=⟨h.w,h.fit⟩
theorem mutate2_tq (c:Form) (o:zba) (K:Int) (ho:OkRd o K) (hc:Dr 1000 c) (hK:K≤1000000) {β:Type} {g:Form→zba→Nat→Option β} {R:β→Prop}
  (h:∀ f o',OkRd o' (K+7000)→Dr (c.w+2) f→TQ (fun m=>g f o' m) R):TQ (fun m=>(zao m o c).bind fun v=>(zao m v.2 v.1).bind fun u=>g u.1 u.2 m) R:=by
 have h1:=hc.w
 refine TQ.bind (zg5 _ c o K (Nat.le_refl _) ho (by omega) hc.fit (by omega)) (fun v hv=>?_)
 obtain ⟨v1,v2,v3⟩:=hv
 refine TQ.bind (zg5 _ v.1 v.2 _ (Nat.le_refl _) v1 (by omega) v3 (by omega)) (fun u hu=>?_)
 obtain ⟨u1,u2,u3⟩:=hu
 exact h _ _ (u1.mono (by omega)) ⟨by omega,u3⟩
theorem nameForm_tr (s:ByteArray):Tr (fun m=>zeb m s) (Form.mk 1 s 0 ([]:List Int) ([]:List Form)):=Tr.of (fun m=>by unfold zeb;rfl)
theorem nameForm_dr {s:ByteArray} (h:s.size≤100):Dr 1 (Form.mk 1 s 0 ([]:List Int) ([]:List Form)):=⟨by simp [Form.w,Form.ws],by rw [Form.fit,Form.fits];simp;omega⟩
def elseF:Form:=Form.mk 1 (⟨#[101,108,115,101]⟩:ByteArray) 0 ([]:List Int) ([]:List Form)
theorem elseF_dr:Dr 1 elseF:=nameForm_dr (by decide)
theorem pairs_tq {l:List (List ByteArray)} {ps:List (Form × Form)} (hl:Pairs ps l) {i:Int} (h0:0≤i) (h1:i < l.length):∃ p∈ps,∃ a b,Abs.idx l i=some [a,b]∧zdy a p.1∧zdy b p.2:=by
 obtain ⟨x,hx,hm⟩:=idx_int h0 h1
 obtain ⟨p,hp,a,b,rfl,h2,h3⟩:=hl.mem x hm
 exact ⟨p,hp,a,b,hx,h2,h3⟩
theorem idx2_0 {α:Type} (a b:α):Abs.idx [a,b] 0=some a:=rfl
theorem idx2_1 {α:Type} (a b:α):Abs.idx [a,b] 1=some b:=rfl
def lits4 (l:List Form):Prop:=l=[elseF]∨l=[]
theorem lits4.dr {l:List Form} (h:lits4 l):Form.ws l≤2∧Form.fits l∧l.length≤1:=by
 rcases h with rfl | rfl
 ·exact ⟨by decide,Form.fits_one elseF_dr.fit,by decide⟩
 ·exact ⟨by decide,Form.fits_nil,by decide⟩
end Go.Abs
end
section
set_option linter.unusedVariables false
set_option linter.unusedSimpArgs false
namespace Go.Abs
theorem loop_app {α β γ:Type} {xs:List α} {c:Nat} {f:α→β} {L:Nat→Int→List β→Option γ} {E:Nat→α→Option β} {fin:List β→γ}
  (h0:∀ m k acc,L (m+1) k acc=bif decide (k < (xs.length:Int)) then (idx xs k).bind fun a=>(E m a).bind fun v=>chk (decide ((acc.length+[v].length)*c≤140737488355328)) (L m (k+1) (acc++[v])) else some (fin acc))
  (hE:∀ a∈xs,Tr (fun m=>E m a) (f a)) (acc0:List β) (hb:(acc0.length+xs.length)*c≤140737488355328):Tr (fun m=>L m 0 acc0) (fin (acc0++xs.map f)):=by
 have key:=zak xs (fun k zs=>∀ acc:List β,(acc.length+zs.length)*c≤140737488355328→Tr (fun m=>L m (k:Int) acc) (fin (acc++zs.map f))) ?_ ?_ 0 (Nat.zero_le _) acc0 (by simpa using hb)
 ·simpa using key
 ·intro acc _
  refine Tr.step (fun m=>by rw [h0,z6,cond_false]) ?_
  rw [List.map_nil,List.append_nil];exact Tr.val
 ·intro k x zs hk hx hd ih acc hc
  refine Tr.step (fun m=>by rw [h0,ltN hk,cond_true,zE hx,Option.bind_some,zbp]) ?_
  refine Tr.bind (hE x (List.mem_of_getElem? hx)) ?_
  have C1:(acc.length+1)*c≤140737488355328:=Nat.le_trans (Nat.mul_le_mul_right c (by simp)) hc
  refine Tr.chk (decide_eq_true (by simpa using C1)) ?_
  have:=ih (acc++[f x]) (by
   refine Nat.le_trans (Nat.mul_le_mul_right c ?_) hc
   simp;omega)
  rwa [List.append_assoc] at this
theorem clone_tr (l:List Int) (h:l.length≤2 ^ 36):Tr (fun m=>zcW m l) l :=
 Tr.eq (fun m=>by unfold zcW;rfl) (Tr.chk (decide_eq_true (by simp;omega)) Tr.val)
theorem copyForm_n:∀ (n:Nat) (f:Form),f.w≤n→f.w≤2 ^ 36→Tr (fun m=>zbz m f) f:=by
 intro n
 induction n with
 | zero=>intro f h _;have:=f.w_kids;omega
 | succ n ih =>
   intro f h hb
   have hw:=f.w_kids
   have hl:=Form.ws_len f.kids
   refine Tr.step (fun m=>by rw [zbz]) (Tr.bind (clone_tr _ (by omega)) ?_)
   have:=loop_app (xs:=f.kids) (c:=80) (f:=fun x=>x) (L:=fun m k acc=>zcf m f f.scopes k acc) (E:=fun m a=>zbz m a) (fin:=fun g=>Form.mk f.kind f.name f.n f.scopes g)
    (fun m k acc=>by rw [zcf]) (fun a ha=>ih a (by have:=Form.ws_mem ha;omega) (by have:=Form.ws_mem ha;omega)) [] (by simp;omega)
   rw [List.map_id',List.nil_append] at this
   obtain ⟨a,b,c,d,e⟩:=f
   exact this
theorem zhS (f:Form) (h:f.w≤2 ^ 36):Tr (fun m=>zbz m f) f:=copyForm_n _ f (Nat.le_refl _) h
theorem ownForm_n:∀ (n:Nat) (f:Form),f.w≤n→f.w≤2 ^ 36→Tr (fun m=>zbI m f) f:=by
 intro n
 induction n with
 | zero=>intro f h _;have:=f.w_kids;omega
 | succ n ih =>
   intro f h hb
   have hw:=f.w_kids
   have hl:=Form.ws_len f.kids
   refine Tr.step (fun m=>by rw [zbI]) (Tr.chk (decide_eq_true (by simp;omega)) (Tr.bind (v:=f.kids) (Tr.step (fun m=>by rw [zcQ]) ?_) ?_))
   ·have:=loop_app (xs:=f.kids) (c:=80) (f:=fun x=>x) (L:=fun m k acc=>zaZ m f.kids acc k) (E:=fun m a=>zbI m a) (fin:=fun g=>g)
     (fun m k acc=>by rw [zaZ]) (fun a ha=>ih a (by have:=Form.ws_mem ha;omega) (by have:=Form.ws_mem ha;omega)) [] (by simp;omega)
    simpa using this
   ·obtain ⟨a,b,c,d,e⟩:=f
    exact Tr.val
theorem ownForm_tr (f:Form) (h:f.w≤2 ^ 36):Tr (fun m=>zbI m f) f:=ownForm_n _ f (Nat.le_refl _) h
theorem l4Vars_nil (f:Form) (lits:List Form) (hb:f.w≤2 ^ 36):Tr (fun m=>zcH m [] f lits) (f.vs lits):=by
 have:=(l4Vars_n lits _ f [] (Nat.le_refl _) (by simp;omega)).1
 simpa using this
theorem l4Depths_nil (f:Form) (lits:List Form) (hb:f.w≤2 ^ 36):Tr (fun m=>zaY m [] f lits 0) ((f.vd lits 0).map (·.2)):=by
 have:=l4Depths_n lits _ f 0 [] (Nat.le_refl _) (by omega) (by simp;omega)
 simpa using this
mutual
noncomputable def Form.part (x:Form):Form→Bool
 | .mk a b c d kids=>same (Form.mk a b c d kids) x||Form.parts x kids
noncomputable def Form.parts (x:Form):List Form→Bool
 | []=>false
 | y::ys=>Form.part x y||Form.parts x ys
end
theorem Form.part_eq (x f:Form):Form.part x f=(same f x||Form.parts x f.kids):=by obtain ⟨a,b,c,d,e⟩:=f;rw [Form.part];rfl
theorem parts_mem {x:Form}:∀ {l:List Form} {y:Form},y∈l→Form.part x y=true→Form.parts x l=true
 | z::l,y,hy,h=>by
   rw [Form.parts,Bool.or_eq_true]
   rcases List.mem_cons.1 hy with rfl | hy
   ·exact .inl h
   ·exact .inr (parts_mem hy h)
theorem codeB {code:List Int} {F G:Nat→Option Bool} (h:¬ 1048576 < (code.length:Int)→TQ G (fun r=>r=true)) (h0:∀ m,F m=bif decide (1048576 < (code.length:Int)) then some true else G m):TQ F (fun r=>r=true) :=
 TQ.eq h0 (TQ.cond (fun _=>TQ.val rfl) (fun hc=>h (by simpa using hc)))
end Go.Abs
end
section
set_option linter.unusedVariables false
set_option linter.unusedSimpArgs false
namespace Go.Abs
theorem l4CopyHit_n:∀ (n:Nat) (h:Hit),h.w≤n→h.w≤2 ^ 36→Tr (fun m=>zbV m h) h:=by
 intro n
 induction n with
 | zero=>intro h hw;have:=h.w_parts;omega
 | succ n ih =>
   intro h hw hb
   have hp:=h.w_parts
   have hl:=Hit.ws_len h.many
   refine Tr.step (fun m=>by rw [zbV]) (Tr.bind (zfr _ h.name (Nat.le_refl _) (by omega)) (Tr.bind (zfr _ h.one (Nat.le_refl _) (by omega)) ?_))
   have:=loop_app (xs:=h.many) (c:=192) (f:=fun x=>x) (L:=fun m k acc=>zbY m h h.name h.one k acc) (E:=fun m a=>zbV m a) (fin:=fun g=>Hit.mk h.name h.depth h.one g)
    (fun m k acc=>by rw [zbY]) (fun a ha=>ih a (by have:=Hit.ws_mem ha;omega) (by have:=Hit.ws_mem ha;omega)) [] (by simp;omega)
   rw [List.map_id',List.nil_append] at this
   obtain ⟨a,b,c,d⟩:=h
   exact this
theorem l4Copy_tr (l:List Hit) (hb:Hit.ws l≤2 ^ 36):Tr (fun m=>zf1 m l) l:=by
 have hl:=Hit.ws_len l
 refine Tr.eq (fun m=>by unfold zf1;rfl) ?_
 have:=loop_app (xs:=l) (c:=192) (f:=fun x=>x) (L:=fun m k acc=>zc0 m l acc k) (E:=fun m a=>zbV m a) (fin:=fun g=>g)
  (fun m k acc=>by rw [zc0]) (fun a ha=>l4CopyHit_n _ a (Nat.le_refl _) (by have:=Hit.ws_mem ha;omega)) [] (by simp;omega)
 simpa using this
noncomputable def hAt (l:List Hit) (f:Form):Int:=fnd (fun x=>same x.name f) l 0
theorem hitAt_tr (l:List Hit) (f:Form):Tr (fun m=>zeZ m l f) (hAt l f):=by
 refine Tr.eq (fun m=>by unfold zeZ;rfl) (Tr.bind ?_ Tr.val)
 refine Tr.eq (fun m=>by unfold za2;rfl) ?_
 exact zg4 (xs:=l) (L:=fun m j=>zQ m l f j) (E:=fun m y=>zdR m y f) (fun m j=>by rw [zQ]) (fun y _=>Tr.eq (fun m=>by unfold zdR;rfl) (Tr.bind (zch _ _) Tr.val))
theorem l4Find_tr (l:List Hit) (f:Form):Tr (fun m=>zd9 m l f) (hAt l f):=by
 refine Tr.eq (fun m=>by unfold zd9;rfl) ?_
 exact zg4 (xs:=l) (L:=fun m j=>zbU m l f j) (E:=fun m y=>zav m y.name f) (fun m j=>by rw [zbU]) (fun y _=>zcL _ _)
theorem fnd_at {α:Type} {D:α→Bool}:∀ {l:List α} {k:Nat},(fnd D l k=-1∧∀ x∈l,D x=false)∨∃ i x,fnd D l k=((k+i:Nat):Int)∧l[i]?=some x∧D x=true∧∀ y∈l.take i,D y=false
 | [],k=>.inl ⟨rfl,fun x hx=>by cases hx⟩
 | z::l,k=>by
   rw [fnd]
   cases h:D z with
   | true=>exact .inr ⟨0,z,rfl,rfl,h,fun y hy=>by cases hy⟩
   | false =>
     rw [cond_false]
     rcases fnd_at (D:=D) (l:=l) (k:=k+1) with ⟨h1,h2⟩ | ⟨i,x,h1,h2,h3,h4⟩
     ·exact .inl ⟨h1,fun x hx=>by
       rcases List.mem_cons.1 hx with rfl | hx
       ·exact h
       ·exact h2 x hx⟩
     ·exact .inr ⟨i+1,x,by rw [h1];congr 1;omega,by simpa using h2,h3,fun y hy=>by
       rw [List.take_succ_cons] at hy
       rcases List.mem_cons.1 hy with rfl | hy
       ·exact h
       ·exact h4 y hy⟩
def hit0:Hit:=Hit.mk (Form.mk 0 (⟨#[]⟩:ByteArray) 0 ([]:List Int) ([]:List Form)) 0 (Form.mk 0 (⟨#[]⟩:ByteArray) 0 ([]:List Int) ([]:List Form)) ([]:List Hit)
end Go.Abs
end
section
set_option linter.unusedVariables false
set_option linter.unusedSimpArgs false
namespace Go.Abs
def anys {α:Type} (D:α→Bool):List α→Bool
 | []=>false
 | x::xs=>D x||anys D xs
theorem loop_any {α:Type} {xs:List α} {D:α→Bool} {L:Nat→Int→Option Bool} {E:Nat→α→Option Bool}
  (h0:∀ m k,L (m+1) k=bif decide (k < (xs.length:Int)) then (idx xs k).bind fun a=>(E m a).bind fun v=>bif v then some true else L m (k+1) else some false)
  (hE:∀ a∈xs,Tr (fun m=>E m a) (D a)):Tr (fun m=>L m 0) (anys D xs):=by
 have key:=zak xs (fun k zs=>Tr (fun m=>L m (k:Int)) (anys D zs)) ?_ ?_ 0 (Nat.zero_le _)
 ·simpa using key
 ·exact Tr.step (fun m=>by rw [h0,z6,cond_false];rfl) Tr.val
 ·intro k x zs hk hx hd ih
  refine Tr.step (fun m=>by rw [h0,ltN hk,cond_true,zE hx,Option.bind_some,zbp]) ?_
  refine Tr.bind (hE x (List.mem_of_getElem? hx)) ?_
  rw [anys]
  cases h:D x with
  | true=>exact Tr.tt rfl Tr.val
  | false=>exact Tr.ff rfl (by simpa using ih)
def hasB (l:List Int) (n:Int):Bool:=anys (fun x=>decide (x=n)) l
theorem l2Has_tr (l:List Int) (n:Int):Tr (fun m=>zfS m l n) (hasB l n):=by
 refine Tr.eq (fun m=>by unfold zfS;rfl) ?_
 exact loop_any (xs:=l) (L:=fun m k=>zdr m l n k) (E:=fun m a=>some (decide (a=n))) (fun m k=>by rw [zdr];rfl) (fun a _=>Tr.val)
def withinB (a b:List Int):Bool:=alls (fun x=>hasB b x) a
theorem specWithin_tr (a b:List Int):Tr (fun m=>zcD m a b) (withinB a b):=by
 refine Tr.eq (fun m=>by unfold zcD;rfl) ?_
 have:=loop_all (xs:=a) (c:=true) (D:=fun x=>hasB b x) (L:=fun m k=>zbl m a b k) (E:=fun m x=>zfS m b x) (fun m k=>by rw [zbl]) (fun x _=>l2Has_tr b x)
 rwa [Bool.and_true] at this
def bind0:Bind:=Bind.mk (⟨#[]⟩:ByteArray) [] 0
def bAt (l:List Bind) (i:Int):Bind:=l.getD i.toNat bind0
theorem bAt_idx {l:List Bind} {i:Int} (h0:0≤i) (h1:i < l.length):idx l i=some (bAt l i):=by
 obtain ⟨k,rfl⟩:=Int.eq_ofNat_of_zero_le h0
 have hk:k < l.length:=by omega
 rw [zE (List.getElem?_eq_getElem hk)]
 unfold bAt
 rw [Int.toNat_natCast,List.getD_eq_getElem?_getD,List.getElem?_eq_getElem hk];rfl
def fitB (f:Form) (b:Bind):Bool:=decide (b.name=f.name)&&withinB b.scopes f.scopes
def fitsF (f:Form):List Bind→Nat→List Int
 | [],_=>[]
 | b::bs,k=>(bif fitB f b then [(k:Int)] else [])++fitsF f bs (k+1)
def fitsB (l:List Bind) (f:Form):List Int:=fitsF f l 0
theorem fitsF_mem {f:Form}:∀ {l:List Bind} {k:Nat} {i:Int},i∈fitsF f l k→∃ j b,i=((k+j:Nat):Int)∧l[j]?=some b∧fitB f b=true
 | b::bs,k,i,h=>by
   rw [fitsF] at h
   rcases List.mem_append.1 h with h | h
   ·cases hb:fitB f b with
    | true=>rw [hb,cond_true,List.mem_singleton] at h;exact ⟨0,b,by simpa using h,rfl,hb⟩
    | false=>rw [hb,cond_false] at h;cases h
   ·obtain ⟨j,c,h1,h2,h3⟩:=fitsF_mem h
    exact ⟨j+1,c,by rw [h1];congr 1;omega,by simpa using h2,h3⟩
theorem fitsB_mem {l:List Bind} {f:Form} {i:Int} (h:i∈fitsB l f):0≤i∧i < l.length:=by
 obtain ⟨j,b,h1,h2,_⟩:=fitsF_mem h
 have:=(List.getElem?_eq_some_iff.1 h2).1
 omega
theorem l3Fitting_tr (l:List Bind) (f:Form) (hb:l.length≤2 ^ 36):Tr (fun m=>zee m l f) (fitsB l f):=by
 refine Tr.eq (fun m=>by unfold zee;rfl) ?_
 have key:=zak l (fun k zs=>∀ g:List Int,g.length≤k→Tr (fun m=>za3 m l f g (k:Int)) (g++fitsF f zs k)) ?_ ?_ 0 (Nat.zero_le _) [] (by simp)
 ·exact key
 ·intro g _
  refine Tr.step (fun m=>by rw [za3,z6,cond_false]) ?_
  rw [fitsF,List.append_nil];exact Tr.val
 ·intro k x zs hk hx hd ih g hg
  refine Tr.step (fun m=>by rw [za3,ltN hk,cond_true,zE hx,Option.bind_some,Option.bind_some]) ?_
  rw [fitsF]
  have j2:∀ b:Bool,fitB f x=b→Tr (fun m=>zbZ m l f g (k:Int) b) (g++((bif fitB f x then [(k:Int)] else [])++fitsF f zs (k+1))):=by
   intro b hb
   rw [hb]
   refine Tr.step (fun m=>by rw [zbZ]) ?_
   cases b with
   | true =>
     refine Tr.tt rfl (Tr.chk (decide_eq_true (by simp;omega)) ?_)
     have:=ih (g++[(k:Int)]) (by simp;omega)
     rw [List.append_assoc] at this
     exact this
   | false=>exact Tr.ff rfl (by simpa using ih g (by omega))
  unfold fitB at j2
  by_cases hn:x.name=f.name
  ·refine Tr.tt (decide_eq_true hn) (Tr.bind (specWithin_tr _ _) (j2 _ ?_))
   rw [decide_eq_true hn,Bool.true_and]
  ·refine Tr.ff (decide_eq_false hn) (j2 false ?_)
   rw [decide_eq_false hn,Bool.false_and]
def bestB (l:List Bind) (fits:List Int) (i:Int):Bool:=alls (fun j=>withinB (bAt l j).scopes (bAt l i).scopes) fits
def firstB (l:List Bind) (fits:List Int):List Int→Option Int
 | []=>none
 | i::is=>bif bestB l fits i then some i else firstB l fits is
def refB (l:List Bind) (f:Form):Int × Int :=
 match firstB l (fitsB l f) (fitsB l f) with
 | some i=>(i,1)
 | none=>(0,bif decide (0 < ((fitsB l f).length:Int)) then 2 else 0)
theorem l3Find_tr (l:List Bind) (f:Form) (hb:l.length≤2 ^ 36):Tr (fun m=>zfa m l f) (refB l f):=by
 refine Tr.eq (fun m=>by unfold zfa;rfl) (Tr.bind (l3Fitting_tr l f hb) ?_)
 unfold refB
 have hm:∀ i∈fitsB l f,0≤i∧i < (l.length:Int):=fun i hi=>fitsB_mem hi
 generalize fitsB l f=fs at hm
 have key:=zak fs (fun k zs=>(∀ z∈zs,z∈fs)→Tr (fun m=>zct m l fs (k:Int)) (match firstB l fs zs with
  | some i=>(i,1)
  | none=>(0,bif decide (0 < (fs.length:Int)) then 2 else 0))) ?_ ?_ 0 (Nat.zero_le _) (fun z hz=>by simpa using hz)
 ·exact key
 ·intro _
  refine Tr.step (fun m=>by rw [zct,z6,cond_false]) ?_
  rw [firstB]
  cases decide (0 < (fs.length:Int)) with
  | true=>exact Tr.tt rfl Tr.val
  | false=>exact Tr.ff rfl Tr.val
 ·intro k x zs hk hx hd ih hz
  have hx1:=hm x (hz x (by simp))
  refine Tr.step (fun m=>by rw [zct,ltN hk,cond_true]) ?_
  rw [firstB]
  have j2:∀ b:Bool,bestB l fs x=b→Tr (fun m=>zdB m l fs (k:Int) b) (match (bif bestB l fs x then some x else firstB l fs zs) with
    | some i=>(i,1)
    | none=>(0,bif decide (0 < (fs.length:Int)) then 2 else 0)):=by
   intro b hb
   rw [hb]
   refine Tr.step (fun m=>by rw [zdB,zE hx,Option.bind_some,zbp]) ?_
   cases b with
   | true=>exact Tr.tt rfl Tr.val
   | false=>exact Tr.ff rfl (ih (fun z hzz=>hz z (by simp [hzz])))
  have inner:=zak fs (fun j ys=>∀ b:Bool,(b&&alls (fun j=>withinB (bAt l j).scopes (bAt l x).scopes) ys)=bestB l fs x→(∀ y∈ys,y∈fs)→Tr (fun m=>zcs m l fs (k:Int) b (j:Int)) (match (bif bestB l fs x then some x else firstB l fs zs) with
    | some i=>(i,1)
    | none=>(0,bif decide (0 < (fs.length:Int)) then 2 else 0))) ?_ ?_ 0 (Nat.zero_le _) true (by rw [Bool.true_and,List.drop_zero];rfl) (fun z hzz=>by simpa using hzz)
  ·exact inner
  ·intro b hb _
   rw [alls,Bool.and_true] at hb
   exact Tr.step (fun m=>by rw [zcs,z6,cond_false]) (j2 b hb.symm)
  ·intro j y ys hj hy hdy ihj b hb hys
   have hy1:=hm y (hys y (by simp))
   refine Tr.step (fun m=>by rw [zcs,ltN hj,cond_true]) ?_
   rw [alls] at hb
   cases b with
   | true =>
     refine Tr.tt rfl (Tr.eq (fun m=>by rw [zE hy,Option.bind_some,bAt_idx hy1.1 hy1.2,Option.bind_some,zE hx,Option.bind_some,bAt_idx hx1.1 hx1.2,Option.bind_some]) (Tr.bind (specWithin_tr _ _) ?_))
     refine Tr.step (fun m=>by rw [zc2,zbp]) (ihj _ ?_ (fun z hzz=>hys z (by simp [hzz])))
     rw [Bool.true_and] at hb;exact hb
   | false =>
     refine Tr.ff rfl (Tr.step (fun m=>by rw [zc2,zbp]) (ihj _ ?_ (fun z hzz=>hys z (by simp [hzz]))))
     rw [Bool.false_and] at hb ⊢;exact hb
theorem firstB_mem {l:List Bind} {fits:List Int}:∀ {is:List Int} {i:Int},firstB l fits is=some i→i∈is
 | z::is,i,h=>by
   rw [firstB] at h
   cases hb:bestB l fits z with
   | true=>rw [hb,cond_true] at h;cases h;simp
   | false=>rw [hb,cond_false] at h;simp [firstB_mem h]
theorem refB_cases (l:List Bind) (f:Form):(∃ i,refB l f=(i,1)∧0≤i∧i < (l.length:Int))∨refB l f=(0,2)∨refB l f=(0,0):=by
 unfold refB
 cases h:firstB l (fitsB l f) (fitsB l f) with
 | some i=>exact .inl ⟨i,rfl,fitsB_mem (firstB_mem h)⟩
 | none=>cases decide (0 < ((fitsB l f).length:Int)) with
   | true=>exact .inr (.inl rfl)
   | false=>exact .inr (.inr rfl)
def refS (l:List Bind) (a b:Form):Bool :=
 decide ((refB l a).2=(refB l b).2)&&(!decide ((refB l a).2=2)&&(bif decide ((refB l a).2=0) then decide (a.name=b.name) else decide ((bAt l (refB l a).1).id=(bAt l (refB l b).1).id)))
theorem l3Same_tr (l:List Bind) (a b:Form) (hb:l.length≤2 ^ 36):Tr (fun m=>zf2 m l a b) (refS l a b):=by
 refine Tr.eq (fun m=>by unfold zf2;rfl) (Tr.bind (l3Find_tr l a hb) (Tr.bind (l3Find_tr l b hb) ?_))
 unfold refS
 by_cases h:(refB l a).2=(refB l b).2
 case neg =>
  rw [decide_eq_false h,Bool.false_and]
  exact Tr.tt (by simpa using h) (Tr.step (fun m=>by rw [zc1];rfl) Tr.val)
 rw [decide_eq_true h,Bool.true_and]
 refine Tr.ff (by simpa using h) (Tr.step (fun m=>by rw [zc1]) ?_)
 rcases refB_cases l a with ⟨i,ha,i0,i1⟩ | ha | ha
 ·rcases refB_cases l b with ⟨j,B2,j0,j1⟩ | B2 | B2
  ·rw [ha,B2]
   exact Tr.ff rfl (Tr.ff rfl (Tr.eq (fun m=>by rw [bAt_idx i0 i1,Option.bind_some,bAt_idx j0 j1,Option.bind_some];rfl) Tr.val))
  ·rw [ha,B2] at h;simp at h
  ·rw [ha,B2] at h;simp at h
 ·rw [ha];exact Tr.tt rfl Tr.val
 ·rw [ha];exact Tr.ff rfl (Tr.tt rfl Tr.val)
end Go.Abs
end
section
set_option linter.unusedVariables false
set_option linter.unusedSimpArgs false
namespace Go.Abs
def rowH:Nat→List (Form × Int)→List (List Hit)→List Hit
 | _,[],_=>[]
 | k,v::vs,rows=>Hit.mk v.1 (v.2+1) zbQ (rows.map fun r=>r.getD k hit0)::rowH (k+1) vs rows
theorem rowH_name:∀ (vs:List (Form × Int)) (k:Nat) (rows:List (List Hit)),(rowH k vs rows).map Hit.name=vs.map (·.1)
 | [],k,rows=>rfl
 | v::vs,k,rows=>by rw [rowH,List.map_cons,List.map_cons,rowH_name vs];rfl
def allM {α β:Type} (D:α→Option β):List α→Option (List β)
 | []=>some []
 | x::xs=>match D x with
   | none=>none
   | some y=>match allM D xs with
     | none=>none
     | some ys=>some (y::ys)
theorem allM_len {α β:Type} {D:α→Option β}:∀ {l:List α} {r:List β},allM D l=some r→r.length=l.length
 | [],r,h=>by rw [allM] at h;cases h;rfl
 | x::xs,r,h=>by
   rw [allM] at h
   cases hx:D x with
   | none=>simp [hx] at h
   | some y =>
     cases hs:allM D xs with
     | none=>simp [hx,hs] at h
     | some ys=>simp [hx,hs] at h;subst h;simp [allM_len hs]
theorem allM_mem {α β:Type} {D:α→Option β}:∀ {l:List α} {r:List β},allM D l=some r→∀ y∈r,∃ x∈l,D x=some y
 | [],r,h,y,hy=>by rw [allM] at h;cases h;cases hy
 | x::xs,r,h,y,hy=>by
   rw [allM] at h
   cases hx:D x with
   | none=>simp [hx] at h
   | some z =>
     cases hs:allM D xs with
     | none=>simp [hx,hs] at h
     | some ys =>
       simp [hx,hs] at h;subst h
       rcases List.mem_cons.1 hy with rfl | hy
       ·exact ⟨x,by simp,hx⟩
       ·obtain ⟨w,hw,hD⟩:=allM_mem hs y hy
        exact ⟨w,by simp [hw],hD⟩
def oapp {α:Type}:Option (List α)→Option (List α)→Option (List α)
 | some a,some b=>some (a++b)
 | _,_=>none
mutual
noncomputable def Form.mt (bs:List Bind) (lits:List Form):Form→Form→Option (List Hit)
 | .mk k nm n sc kids,f =>
   bif decide (k=1) then
    bif decide (nm=zgJ) then some []
    else bif inF lits (.mk k nm n sc kids) then (bif decide (f.kind=1)&&refS bs (.mk k nm n sc kids) f then some [] else none)
    else some [Hit.mk (.mk k nm n sc kids) 0 f []]
   else bif decide (k=2) then (bif same (.mk k nm n sc kids) f then some [] else none)
   else bif decide (f.kind≠3) then none else Form.mts bs lits kids f.kids
noncomputable def Form.mts (bs:List Bind) (lits:List Form):List Form→List Form→Option (List Hit)
 | [],fs=>bif decide (fs.length=0) then some [] else none
 | p::ps,fs =>
   bif zK p then Form.mts bs lits ps fs
   else bif zbM ps then
    bif decide (fs.length+1 < ps.length) then none
    else match allM (fun f=>Form.mt bs lits p f) (fs.take (fs.length+1-ps.length)) with
     | none=>none
     | some rows=>oapp (some (rowH 0 (p.vd lits 0) rows)) (Form.mts bs lits ps (fs.drop (fs.length+1-ps.length)))
   else match fs with
    | []=>none
    | f::fs'=>oapp (Form.mt bs lits p f) (Form.mts bs lits ps fs')
end
theorem Form.mt_eq (bs:List Bind) (lits:List Form) (p f:Form):p.mt bs lits f=bif decide (p.kind=1) then
  bif decide (p.name=zgJ) then some []
  else bif inF lits p then (bif decide (f.kind=1)&&refS bs p f then some [] else none)
  else some [Hit.mk p 0 f []]
  else bif decide (p.kind=2) then (bif same p f then some [] else none)
  else bif decide (f.kind≠3) then none else Form.mts bs lits p.kids f.kids:=by
 obtain ⟨a,b,c,d,e⟩:=p;rw [Form.mt];rfl
structure PatS (p:Form):Prop where
 ok:∃ d,p.isOk d=true
 shp:p.shp=true
def KidS (x:Form):Prop:=(∃ d,x.isOk d=true)∧(zK x=true∨x.shp=true)
theorem zft {f:Form} {d:Nat} (h:f.isOk d=true):(f.kind≠3→f.kids=[])∧∀ x∈f.kids,x.isOk (d-1)=true:=by
 rw [Form.isOk_eq] at h
 cases hd:decide (d=0) with
 | true=>rw [hd] at h;cases h
 | false =>
 rw [hd,cond_false] at h
 by_cases h1:f.kind=1
 ·rw [decide_eq_true h1,cond_true] at h
  simp only [Bool.and_eq_true,decide_eq_true_eq] at h
  have:f.kids=[]:=List.eq_nil_of_length_eq_zero (by omega)
  exact ⟨fun _=>this,fun x hx=>by rw [this] at hx;cases hx⟩
 ·rw [decide_eq_false h1,cond_false] at h
  by_cases h2:f.kind=2
  ·rw [decide_eq_true h2,cond_true] at h
   simp only [Bool.and_eq_true,decide_eq_true_eq] at h
   have:f.kids=[]:=List.eq_nil_of_length_eq_zero (by omega)
   exact ⟨fun _=>this,fun x hx=>by rw [this] at hx;cases hx⟩
  ·rw [decide_eq_false h2,cond_false] at h
   simp only [Bool.and_eq_true,decide_eq_true_eq] at h
   obtain ⟨h3,_,_,_,h4⟩:=h
   exact ⟨fun hn=>absurd h3 hn,fun x hx=>zdT.1 h4 x hx⟩
theorem kP_mem:∀ {l:List Form} {pd:Bool},Form.kP pd l=true→∀ x∈l,zK x=true∨x.shp=true
 | y::ys,pd,h,x,hx=>by
   rw [Form.kP,Bool.and_eq_true] at h
   rcases List.mem_cons.1 hx with rfl | hx
   ·cases hd:zK x with
    | true=>exact .inl rfl
    | false=>have:=h.1;rw [hd,cond_false] at this;exact .inr this
   ·exact kP_mem h.2 x hx
theorem PatS.parts {p:Form} (h:PatS p):zK p=false∧Form.kP true p.kids=true∧cntD p.kids≤1∧(∀ x∈p.kids,KidS x)∧(p.kind≠3→p.kids=[]):=by
 obtain ⟨⟨d,hd⟩,hs⟩:=h
 rw [Form.shp_eq,Bool.and_eq_true,Bool.and_eq_true,Bool.not_eq_true',decide_eq_true_eq] at hs
 obtain ⟨k1,k2⟩:=zft hd
 exact ⟨hs.1,hs.2.1,hs.2.2,fun x hx=>⟨⟨_,k2 x hx⟩,kP_mem hs.2.1 x hx⟩,k1⟩
theorem KidS.pat {x:Form} (h:KidS x) (hd:zK x=false):PatS x:=⟨h.1,by
 rcases h.2 with h | h
 ·rw [hd] at h;cases h
 ·exact h⟩
theorem KidS.dots {x:Form} (h:KidS x) (hd:zK x=true) (lits:List Form):x.vs lits=[]∧zfs lits x=false∧x.kids=[]:=by
 obtain ⟨⟨d,h⟩,_⟩:=h
 unfold zK at hd
 rw [Bool.and_eq_true,decide_eq_true_eq,decide_eq_true_eq] at hd
 have hk:x.kids=[]:=(zft h).1 (by omega)
 have hv:zfs lits x=false:=by unfold zfs;rw [decide_eq_true hd.1,decide_eq_true hd.2];rfl
 exact ⟨by rw [Form.vs_eq,hk,hv];rfl,hv,hk⟩
theorem oapp_some {α:Type} {a b:Option (List α)} {r:List α} (h:oapp a b=some r):∃ x y,a=some x∧b=some y∧r=x++y:=by
 cases a<;>cases b<;>simp [oapp] at h
 exact ⟨_,_,rfl,rfl,h.symm⟩
theorem Form.mts_eq (bs:List Bind) (lits:List Form) (p:Form) (ps fs:List Form):Form.mts bs lits (p::ps) fs=bif zK p then Form.mts bs lits ps fs
  else bif zbM ps then
   bif decide (fs.length+1 < ps.length) then none
   else match allM (fun f=>Form.mt bs lits p f) (fs.take (fs.length+1-ps.length)) with
    | none=>none
    | some rows=>oapp (some (rowH 0 (p.vd lits 0) rows)) (Form.mts bs lits ps (fs.drop (fs.length+1-ps.length)))
  else match fs with
   | []=>none
   | f::fs'=>oapp (Form.mt bs lits p f) (Form.mts bs lits ps fs'):=by
 cases fs<;>rw [Form.mts]
theorem mts_cons {bs:List Bind} {lits:List Form} {p:Form} {ps fs:List Form} {h:List Hit} (hm:Form.mts bs lits (p::ps) fs=some h) :
  (zK p=true∧Form.mts bs lits ps fs=some h) ∨
  (zK p=false∧zbM ps=true∧ps.length≤fs.length+1∧∃ rows h2,allM (fun f=>p.mt bs lits f) (fs.take (fs.length+1-ps.length))=some rows∧Form.mts bs lits ps (fs.drop (fs.length+1-ps.length))=some h2∧h=rowH 0 (p.vd lits 0) rows++h2) ∨
  (zK p=false∧zbM ps=false∧∃ f fs' h1 h2,fs=f::fs'∧p.mt bs lits f=some h1∧Form.mts bs lits ps fs'=some h2∧h=h1++h2):=by
 rw [Form.mts_eq] at hm
 cases hd:zK p with
 | true=>rw [hd,cond_true] at hm;exact .inl ⟨rfl,hm⟩
 | false =>
 rw [hd,cond_false] at hm
 cases hn:zbM ps with
 | true =>
   rw [hn,cond_true] at hm
   by_cases hl:fs.length+1 < ps.length
   ·rw [decide_eq_true hl] at hm;cases hm
   ·rw [decide_eq_false hl,cond_false] at hm
    cases ha:allM (fun f=>p.mt bs lits f) (fs.take (fs.length+1-ps.length)) with
    | none=>rw [ha] at hm;cases hm
    | some rows =>
      rw [ha] at hm
      obtain ⟨x,y,hx,hy,hr⟩:=oapp_some hm
      cases hx
      exact .inr (.inl ⟨rfl,rfl,by omega,rows,y,rfl,hy,hr⟩)
 | false =>
   rw [hn,cond_false] at hm
   cases fs with
   | nil=>cases hm
   | cons f fs' =>
     obtain ⟨x,y,hx,hy,hr⟩:=oapp_some hm
     exact .inr (.inr ⟨rfl,rfl,f,fs',x,y,rfl,hx,hy,hr⟩)
theorem zhe {bs:List Bind} {lits:List Form}:∀ {ps:List Form},(∀ x∈ps,KidS x)→(∀ x∈ps,zK x=false→∀ f h,x.mt bs lits f=some h→h.map Hit.name=x.vs lits)→∀ {fs:List Form} {h:List Hit},Form.mts bs lits ps fs=some h→h.map Hit.name=Form.kVs lits ps
 | [],_,_,fs,h,hm=>by
   rw [Form.mts] at hm
   cases hz:decide (fs.length=0) with
   | true=>rw [hz] at hm;cases hm;rfl
   | false=>rw [hz] at hm;cases hm
 | p::ps,hk,ih,fs,h,hm=>by
   have hk':∀ x∈ps,KidS x:=fun x hx=>hk x (by simp [hx])
   have ih':∀ x∈ps,zK x=false→∀ f h,x.mt bs lits f=some h→h.map Hit.name=x.vs lits:=fun x hx=>ih x (by simp [hx])
   rw [Form.kVs]
   rcases mts_cons hm with ⟨hd,hm2⟩ | ⟨hd,hn,hl,rows,h2,ha,hm2,rfl⟩ | ⟨hd,hn,f,fs',h1,h2,rfl,hf,hm2,rfl⟩
   ·rw [((hk p (by simp)).dots hd lits).1,List.nil_append];exact zhe hk' ih' hm2
   ·rw [List.map_append,rowH_name,Form.vd_fst,zhe hk' ih' hm2]
   ·rw [List.map_append,ih p (by simp) hd f h1 hf,zhe hk' ih' hm2]
theorem mt_names_n (bs:List Bind) (lits:List Form):∀ (n:Nat) (p:Form),p.w≤n→PatS p→∀ f h,p.mt bs lits f=some h→h.map Hit.name=p.vs lits:=by
 intro n
 induction n with
 | zero=>intro p h;have:=p.w_kids;omega
 | succ n ih =>
   intro p hp hs f h hm
   have hw:=p.w_kids
   obtain ⟨q1,q2,q3,q4,q5⟩:=hs.parts
   rw [Form.mt_eq] at hm
   rw [Form.vs_eq]
   by_cases h1:p.kind=1
   ·rw [decide_eq_true h1,cond_true] at hm
    rw [q5 (by omega),Form.kVs,List.append_nil]
    unfold zK at q1
    rw [decide_eq_true h1,Bool.true_and] at q1
    unfold zfs
    rw [decide_eq_true h1,q1,Bool.not_false,Bool.true_and,Bool.true_and]
    cases hu:decide (p.name=zgJ) with
    | true=>rw [hu] at hm;cases hm;rfl
    | false =>
    rw [hu,cond_false] at hm
    cases hi:inF lits p with
    | true =>
      rw [hi,cond_true] at hm
      cases hr:(decide (f.kind=1)&&refS bs p f) with
      | true=>rw [hr] at hm;cases hm;rfl
      | false=>rw [hr] at hm;cases hm
    | false=>rw [hi] at hm;cases hm;rfl
   ·rw [decide_eq_false h1,cond_false] at hm
    have hv:zfs lits p=false:=by unfold zfs;rw [decide_eq_false h1];rfl
    rw [hv,cond_false,List.nil_append]
    by_cases h2:p.kind=2
    ·rw [decide_eq_true h2,cond_true] at hm
     rw [q5 (by omega),Form.kVs]
     cases hr:same p f with
     | true=>rw [hr] at hm;cases hm;rfl
     | false=>rw [hr] at hm;cases hm
    ·rw [decide_eq_false h2,cond_false] at hm
     cases hr:decide (f.kind≠3) with
     | true=>rw [hr] at hm;cases hm
     | false =>
       rw [hr,cond_false] at hm
       exact zhe q4 (fun x hx hd=>ih x (by have:=Form.ws_mem hx;omega) ((q4 x hx).pat hd)) hm
theorem mt_names {bs:List Bind} {lits:List Form} {p f:Form} {h:List Hit} (hs:PatS p) (hm:p.mt bs lits f=some h):h.map Hit.name=p.vs lits:=mt_names_n bs lits _ p (Nat.le_refl _) hs f h hm
theorem mt_len {bs:List Bind} {lits:List Form} {p f:Form} {h:List Hit} (hs:PatS p) (hm:p.mt bs lits f=some h):h.length=(p.vd lits 0).length:=by
 have h1:=congrArg List.length (mt_names hs hm)
 have h2:=congrArg List.length (Form.vd_fst lits p 0)
 rw [List.length_map] at h1 h2
 omega
def vsum:List Form→Nat
 | []=>0
 | v::vs=>v.w+3+vsum vs
theorem vsum_append:∀ (a b:List Form),vsum (a++b)=vsum a+vsum b
 | [],b=>by rw [List.nil_append,vsum,Nat.zero_add]
 | v::a,b=>by rw [List.cons_append,vsum,vsum,vsum_append a b];omega
theorem vsum_vs (lits:List Form):∀ (n:Nat) (p:Form),p.w≤n→(∃ d,p.isOk d=true)→vsum (p.vs lits)≤4*p.w:=by
 intro n
 induction n with
 | zero=>intro p h;have:=p.w_kids;omega
 | succ n ih =>
   intro p hp hd
   have hw:=p.w_kids
   obtain ⟨d,hd⟩:=hd
   obtain ⟨k1,k2⟩:=zft hd
   rw [Form.vs_eq]
   cases hv:zfs lits p with
   | true =>
     have h1:p.kind=1:=by
      unfold zfs at hv
      rw [Bool.and_eq_true,decide_eq_true_eq] at hv
      exact hv.1
     rw [k1 (by omega),cond_true,Form.kVs,List.append_nil,vsum,vsum];omega
   | false =>
     rw [cond_false,List.nil_append]
     have key:∀ l:List Form,Form.ws l≤n→(∀ x∈l,∃ d,x.isOk d=true)→vsum (Form.kVs lits l)≤4*Form.ws l:=by
      intro l
      induction l with
      | nil=>intro _ _;rw [Form.kVs,vsum];omega
      | cons x xs ihl =>
        intro hl hx
        rw [Form.ws] at hl ⊢
        rw [Form.kVs,vsum_append]
        have:=ih x (by omega) (hx x (by simp))
        have:=ihl (by omega) (fun y hy=>hx y (by simp [hy]))
        omega
     have:=key p.kids (by omega) (fun x hx=>⟨_,k2 x hx⟩)
     omega
def rsum (k:Nat):List (List Hit)→Nat
 | []=>0
 | r::rs=>Hit.ws (r.drop k)+rsum k rs
theorem rowH_w:∀ (vs:List (Form × Int)) (k:Nat) (rows:List (List Hit)),(∀ r∈rows,r.length=k+vs.length)→Hit.ws (rowH k vs rows)≤vsum (vs.map (·.1))+rsum k rows
 | [],k,rows,_=>by rw [rowH,Hit.ws];omega
 | v::vs,k,rows,h=>by
   have ih:=rowH_w vs (k+1) rows (fun r hr=>by have:=h r hr;rw [List.length_cons] at this;omega)
   have key:∀ rs:List (List Hit),(∀ r∈rs,k < r.length)→Hit.ws (rs.map fun r=>r.getD k hit0)+rsum (k+1) rs=rsum k rs:=by
    intro rs
    induction rs with
    | nil=>intro _;rfl
    | cons r rs ihr =>
      intro hr
      have:=ihr (fun r hr'=>hr r (by simp [hr']))
      have hk:=hr r (by simp)
      rw [List.map_cons,Hit.ws,rsum,rsum,List.drop_eq_getElem_cons hk,Hit.ws,List.getD_eq_getElem?_getD,List.getElem?_eq_getElem hk,Option.getD_some]
      omega
   have:=key rows (fun r hr=>by have:=h r hr;rw [List.length_cons] at this;omega)
   have f0:zbQ.w=1:=rfl
   rw [rowH,List.map_cons,vsum,Hit.ws,Hit.w]
   omega
theorem rows_w {bs:List Bind} {lits:List Form} {p:Form} (hp:∀ f h,p.mt bs lits f=some h→Hit.ws h≤4*(p.w*f.w)):∀ {fs:List Form} {rows:List (List Hit)},allM (fun f=>p.mt bs lits f) fs=some rows→rsum 0 rows≤4*(p.w*Form.ws fs)
 | [],rows,h=>by rw [allM] at h;cases h;rw [rsum];omega
 | f::fs,rows,h=>by
   rw [allM] at h
   cases hf:p.mt bs lits f with
   | none=>simp [hf] at h
   | some r =>
     cases hs:allM (fun f=>p.mt bs lits f) fs with
     | none=>simp [hf,hs] at h
     | some rs =>
       simp [hf,hs] at h;subst h
       have h1:=hp f r hf
       have h2:=rows_w hp hs
       rw [rsum,List.drop_zero,Form.ws]
       have e:p.w*(1+f.w+Form.ws fs)=p.w+p.w*f.w+p.w*Form.ws fs:=by rw [Nat.mul_add,Nat.mul_add,Nat.mul_one]
       omega
theorem ws_take_drop (l:List Form) (n:Nat):Form.ws (l.take n)+Form.ws (l.drop n)=Form.ws l:=by
 rw [← Form.ws_append,List.take_append_drop]
theorem prod_row (P A W B:Nat):4*P+4*(P*W)+4*(A*(1+B))≤4*((1+P+A)*(1+(W+B))):=by
 have e:(1+P+A)*(1+(W+B))=1+W+B+(P+P*W+P*B)+(A+A*W+A*B):=by
  rw [Nat.add_mul,Nat.add_mul,Nat.mul_add P,Nat.mul_add A,Nat.mul_add P,Nat.mul_add A,Nat.mul_one,Nat.mul_one,Nat.one_mul];omega
 have e2:A*(1+B)=A+A*B:=by rw [Nat.mul_add,Nat.mul_one]
 omega
theorem prod_one (P A F B:Nat):4*(P*F)+4*(A*(1+B))≤4*((1+P+A)*(1+(1+F+B))):=by
 have e:(1+P+A)*(1+(1+F+B))=1+(1+F+B)+(P+(P+P*F+P*B))+(A+(A+A*F+A*B)):=by
  rw [Nat.add_mul,Nat.add_mul,Nat.one_mul,Nat.mul_add P 1,Nat.mul_add A 1,Nat.mul_add P,Nat.mul_add P,Nat.mul_add A,Nat.mul_add A,Nat.mul_one,Nat.mul_one]
 have e2:A*(1+B)=A+A*B:=by rw [Nat.mul_add,Nat.mul_one]
 omega
theorem Hit.ws_append:∀ (a b:List Hit),Hit.ws (a++b)=Hit.ws a+Hit.ws b
 | [],b=>by rw [List.nil_append,Hit.ws,Nat.zero_add]
 | x::a,b=>by rw [List.cons_append,Hit.ws,Hit.ws,Hit.ws_append a b];omega
theorem mts_w_of {bs:List Bind} {lits:List Form}:∀ {ps:List Form},(∀ x∈ps,KidS x)→(∀ x∈ps,zK x=false→∀ f h,x.mt bs lits f=some h→Hit.ws h≤4*(x.w*f.w))→∀ {fs:List Form} {h:List Hit},Form.mts bs lits ps fs=some h→Hit.ws h≤4*(Form.ws ps*(1+Form.ws fs))
 | [],_,_,fs,h,hm=>by
   rw [Form.mts] at hm
   cases hz:decide (fs.length=0) with
   | true=>rw [hz] at hm;cases hm;rw [Hit.ws];omega
   | false=>rw [hz] at hm;cases hm
 | p::ps,hk,ih,fs,h,hm=>by
   have hk':∀ x∈ps,KidS x:=fun x hx=>hk x (by simp [hx])
   have ih':∀ x∈ps,zK x=false→∀ f h,x.mt bs lits f=some h→Hit.ws h≤4*(x.w*f.w):=fun x hx=>ih x (by simp [hx])
   rw [Form.ws]
   rcases mts_cons hm with ⟨hd,hm2⟩ | ⟨hd,hn,hl,rows,h2,ha,hm2,rfl⟩ | ⟨hd,hn,f,fs',h1,h2,rfl,hf,hm2,rfl⟩
   ·refine Nat.le_trans (mts_w_of hk' ih' hm2) (Nat.mul_le_mul_left 4 (Nat.mul_le_mul_right _ (by omega)))
   ·have r1:=mts_w_of hk' ih' hm2
    have r2:=rows_w (ih p (by simp) hd) ha
    have r3:=rowH_w (p.vd lits 0) 0 rows (fun r hr=>by
     obtain ⟨x,_,hx⟩:=allM_mem ha r hr
     rw [Nat.zero_add]
     exact mt_len ((hk p (by simp)).pat hd) hx)
    rw [Form.vd_fst] at r3
    have r4:=vsum_vs lits _ p (Nat.le_refl _) (hk p (by simp)).1
    rw [Hit.ws_append,← ws_take_drop fs (fs.length+1-ps.length)]
    have:=prod_row p.w (Form.ws ps) (Form.ws (fs.take (fs.length+1-ps.length))) (Form.ws (fs.drop (fs.length+1-ps.length)))
    omega
   ·have r1:=mts_w_of hk' ih' hm2
    have r2:=ih p (by simp) hd f h1 hf
    have:=prod_one p.w (Form.ws ps) f.w (Form.ws fs')
    rw [Hit.ws_append,Form.ws]
    omega
theorem mt_w_n (bs:List Bind) (lits:List Form):∀ (n:Nat) (p:Form),p.w≤n→PatS p→∀ f h,p.mt bs lits f=some h→Hit.ws h≤4*(p.w*f.w):=by
 intro n
 induction n with
 | zero=>intro p h;have:=p.w_kids;omega
 | succ n ih =>
   intro p hp hs f h hm
   have hw:=p.w_kids
   have hfw:=f.w_kids
   obtain ⟨q1,q2,q3,q4,q5⟩:=hs.parts
   rw [Form.mt_eq] at hm
   by_cases h1:p.kind=1
   ·rw [decide_eq_true h1,cond_true] at hm
    cases hu:decide (p.name=zgJ) with
    | true=>rw [hu] at hm;cases hm;rw [Hit.ws];omega
    | false =>
    rw [hu,cond_false] at hm
    cases hi:inF lits p with
    | true =>
      rw [hi,cond_true] at hm
      cases hr:(decide (f.kind=1)&&refS bs p f) with
      | true=>rw [hr] at hm;cases hm;rw [Hit.ws];omega
      | false=>rw [hr] at hm;cases hm
    | false =>
      rw [hi] at hm;cases hm
      simp only [Hit.ws,Hit.w]
      have e1:p.w≤p.w*f.w:=Nat.le_mul_of_pos_right _ (by omega)
      have e2:f.w≤p.w*f.w:=Nat.le_mul_of_pos_left _ (by omega)
      omega
   ·rw [decide_eq_false h1,cond_false] at hm
    by_cases h2:p.kind=2
    ·rw [decide_eq_true h2,cond_true] at hm
     cases hr:same p f with
     | true=>rw [hr] at hm;cases hm;rw [Hit.ws];omega
     | false=>rw [hr] at hm;cases hm
    ·rw [decide_eq_false h2,cond_false] at hm
     cases hr:decide (f.kind≠3) with
     | true=>rw [hr] at hm;cases hm
     | false =>
       rw [hr,cond_false] at hm
       have:=mts_w_of q4 (fun x hx hd=>ih x (by have:=Form.ws_mem hx;omega) ((q4 x hx).pat hd)) hm
       exact Nat.le_trans this (Nat.mul_le_mul_left 4 (Nat.mul_le_mul (by omega) (by omega)))
theorem mt_w {bs:List Bind} {lits:List Form} {p f:Form} {h:List Hit} (hs:PatS p) (hm:p.mt bs lits f=some h):Hit.ws h≤4*(p.w*f.w):=mt_w_n bs lits _ p (Nat.le_refl _) hs f h hm
theorem Hit.fits_app:∀ {a b:List Hit},Hit.fits a→Hit.fits b→Hit.fits (a++b)
 | [],b,_,hb=>hb
 | x::a,b,ha,hb=>by rw [Hit.fits] at ha;rw [List.cons_append,Hit.fits];exact ⟨ha.1,Hit.fits_app ha.2 hb⟩
theorem Hit.fits_of_mem:∀ {l:List Hit},(∀ x∈l,x.fit)→Hit.fits l
 | [],_=>by rw [Hit.fits];trivial
 | x::l,h=>by rw [Hit.fits];exact ⟨h x (by simp),Hit.fits_of_mem (fun y hy=>h y (by simp [hy]))⟩
theorem Form.fits_of_mem:∀ {l:List Form},(∀ x∈l,x.fit)→Form.fits l
 | [],_=>by rw [Form.fits];trivial
 | x::l,h=>by rw [Form.fits];exact ⟨h x (by simp),Form.fits_of_mem (fun y hy=>h y (by simp [hy]))⟩
theorem form0_fit:zbQ.fit:=by rw [Form.fit,Form.fits];decide
theorem hit0_fit:hit0.fit:=by rw [hit0,Hit.fit,Hit.fits];exact ⟨form0_fit,form0_fit,by decide,trivial⟩
theorem Form.vs_fit (lits:List Form):∀ (n:Nat) (p:Form),p.w≤n→p.fit→∀ x∈p.vs lits,x.fit:=by
 intro n
 induction n with
 | zero=>intro p h;have:=p.w_kids;omega
 | succ n ih =>
   intro p hp hf x hx
   have hw:=p.w_kids
   have hk:=hf.parts.2.2.2
   rw [Form.vs_eq] at hx
   rcases List.mem_append.1 hx with hx | hx
   ·cases hv:zfs lits p with
    | true=>rw [hv,cond_true,List.mem_singleton] at hx;subst hx;exact hf
    | false=>rw [hv] at hx;cases hx
   ·have key:∀ l:List Form,Form.ws l≤n→Form.fits l→x∈Form.kVs lits l→x.fit:=by
     intro l
     induction l with
     | nil=>intro _ _ hx;rw [Form.kVs] at hx;cases hx
     | cons y ys ihl =>
       intro hl hfl hx
       rw [Form.ws] at hl
       rw [Form.fits] at hfl
       rw [Form.kVs] at hx
       rcases List.mem_append.1 hx with hx | hx
       ·exact ih y (by omega) hfl.1 x hx
       ·exact ihl (by omega) hfl.2 hx
    exact key p.kids (by omega) hk hx
theorem rowH_fit:∀ {vs:List (Form × Int)} {k:Nat} {rows:List (List Hit)},(∀ v∈vs,v.1.fit)→(∀ r∈rows,Hit.fits r)→rows.length≤9223372036854775807→Hit.fits (rowH k vs rows)
 | [],k,rows,_,_,_=>by rw [rowH,Hit.fits];trivial
 | v::vs,k,rows,hv,hr,hl=>by
   rw [rowH,Hit.fits,Hit.fit]
   refine ⟨⟨hv v (by simp),form0_fit,by rw [List.length_map];exact hl,Hit.fits_of_mem fun x hx=>?_⟩,rowH_fit (fun w hw=>hv w (by simp [hw])) hr hl⟩
   obtain ⟨r,hrm,rfl⟩:=List.mem_map.1 hx
   rw [List.getD_eq_getElem?_getD]
   cases hk:r[k]? with
   | none=>exact hit0_fit
   | some y=>exact Hit.fits_mem (hr r hrm) (List.mem_of_getElem? hk)
theorem mts_fit_of {bs:List Bind} {lits:List Form}:∀ {ps:List Form},(∀ x∈ps,∀ f h,f.fit→x.mt bs lits f=some h→Hit.fits h)→Form.fits ps→∀ {fs:List Form} {h:List Hit},fs.length≤9223372036854775807→Form.fits fs→Form.mts bs lits ps fs=some h→Hit.fits h
 | [],_,_,fs,h,_,_,hm=>by
   rw [Form.mts] at hm
   cases hz:decide (fs.length=0) with
   | true=>rw [hz] at hm;cases hm;rw [Hit.fits];trivial
   | false=>rw [hz] at hm;cases hm
 | p::ps,ih,hp,fs,h,hl,hf,hm=>by
   have ih':∀ x∈ps,∀ f h,f.fit→x.mt bs lits f=some h→Hit.fits h:=fun x hx=>ih x (by simp [hx])
   rw [Form.fits] at hp
   rcases mts_cons hm with ⟨hd,hm2⟩ | ⟨hd,hn,hl2,rows,h2,ha,hm2,rfl⟩ | ⟨hd,hn,f,fs',h1,h2,rfl,hf1,hm2,rfl⟩
   ·exact mts_fit_of ih' hp.2 hl hf hm2
   ·refine Hit.fits_app (rowH_fit (fun v hv=>?_) (fun r hr=>?_) ?_) (mts_fit_of ih' hp.2 (by rw [List.length_drop];omega) (Form.fits_of_mem fun x hx=>Form.fits_mem hf (List.mem_of_mem_drop hx)) hm2)
    ·have:v.1∈p.vs lits:=by rw [← Form.vd_fst lits p 0];exact List.mem_map_of_mem hv
     exact Form.vs_fit lits _ p (Nat.le_refl _) hp.1 _ this
    ·obtain ⟨x,hx,hD⟩:=allM_mem ha r hr
     exact ih p (by simp) x r (Form.fits_mem hf (List.mem_of_mem_take hx)) hD
    ·rw [allM_len ha,List.length_take];omega
   ·rw [Form.fits] at hf
    exact Hit.fits_app (ih p (by simp) f h1 hf.1 hf1) (mts_fit_of ih' hp.2 (by rw [List.length_cons] at hl;omega) hf.2 hm2)
theorem mt_fit_n (bs:List Bind) (lits:List Form):∀ (n:Nat) (p:Form),p.w≤n→p.fit→∀ f h,f.fit→p.mt bs lits f=some h→Hit.fits h:=by
 intro n
 induction n with
 | zero=>intro p h;have:=p.w_kids;omega
 | succ n ih =>
   intro p hp hpf f h hf hm
   have hw:=p.w_kids
   have nil:Hit.fits []:=by rw [Hit.fits];trivial
   rw [Form.mt_eq] at hm
   by_cases h1:p.kind=1
   ·rw [decide_eq_true h1,cond_true] at hm
    cases hu:decide (p.name=zgJ) with
    | true=>rw [hu] at hm;cases hm;exact nil
    | false =>
    rw [hu,cond_false] at hm
    cases hi:inF lits p with
    | true =>
      rw [hi,cond_true] at hm
      cases hr:(decide (f.kind=1)&&refS bs p f) with
      | true=>rw [hr] at hm;cases hm;exact nil
      | false=>rw [hr] at hm;cases hm
    | false =>
      rw [hi] at hm;cases hm
      rw [Hit.fits,Hit.fit,Hit.fits];exact ⟨⟨hpf,hf,by decide,trivial⟩,nil⟩
   ·rw [decide_eq_false h1,cond_false] at hm
    by_cases h2:p.kind=2
    ·rw [decide_eq_true h2,cond_true] at hm
     cases hr:same p f with
     | true=>rw [hr] at hm;cases hm;exact nil
     | false=>rw [hr] at hm;cases hm
    ·rw [decide_eq_false h2,cond_false] at hm
     cases hr:decide (f.kind≠3) with
     | true=>rw [hr] at hm;cases hm
     | false =>
       rw [hr,cond_false] at hm
       exact mts_fit_of (fun x hx=>ih x (by have:=Form.ws_mem hx;omega) (Form.fits_mem hpf.parts.2.2.2 hx)) hpf.parts.2.2.2 hf.parts.2.2.1 hf.parts.2.2.2 hm
theorem mt_fit {bs:List Bind} {lits:List Form} {p f:Form} {h:List Hit} (hp:p.fit) (hf:f.fit) (hm:p.mt bs lits f=some h):Hit.fits h:=mt_fit_n bs lits _ p (Nat.le_refl _) hp f h hf hm
end Go.Abs
end
section
set_option linter.unusedVariables false
set_option linter.unusedSimpArgs false
namespace Go.Abs
mutual
theorem Form.vd_hi (lits:List Form):∀ (f:Form) (v:Nat),∀ x∈f.vd lits v,x.2≤(v:Int)+f.w
 | .mk k nm n sc kids,v,x,hx=>by
   rw [Form.vd,List.mem_append] at hx
   rw [Form.w]
   rcases hx with hx | hx
   ·cases h:zfs lits (.mk k nm n sc kids) with
    | true=>rw [h,cond_true,List.mem_singleton] at hx;subst hx;simp only;omega
    | false=>rw [h,cond_false] at hx;cases hx
   ·have:=Form.kV_hi lits kids v x hx
    omega
theorem Form.kV_hi (lits:List Form):∀ (l:List Form) (v:Nat),∀ x∈Form.kV lits v l,x.2≤(v:Int)+Form.ws l
 | [],v,x,hx=>by rw [Form.kV] at hx;cases hx
 | y::ys,v,x,hx=>by
   rw [Form.kV,List.mem_append] at hx
   rw [Form.ws]
   rcases hx with hx | hx
   ·cases h:zbM ys with
    | true=>rw [h,cond_true] at hx;have:=Form.vd_hi lits y (v+1) x hx;omega
    | false=>rw [h,cond_false] at hx;have:=Form.vd_hi lits y v x hx;omega
   ·have:=Form.kV_hi lits ys v x hx;omega
end
theorem l4Row_tr (p:Form) (lits:List Form) (rows:List (List Hit)) (hb:p.w≤2 ^ 30) (hr:rows.length≤2 ^ 30) (hl:∀ r∈rows,r.length=(p.vd lits 0).length):Tr (fun m=>zgy m p lits rows) (rowH 0 (p.vd lits 0) rows):=by
 refine Tr.eq (fun m=>by unfold zgy;rfl) (Tr.bind (l4Vars_nil p lits (by omega)) (Tr.bind (l4Depths_nil p lits (by omega)) ?_))
 rw [← Form.vd_fst lits p 0]
 have h0:=Form.vd_nn lits p 0
 have h1:=Form.vd_hi lits p 0
 have h2:=Form.vd_len lits p 0
 generalize p.vd lits 0=vs at hl h0 h1 h2
 have key:=zak vs (fun k zs=>∀ g:List Hit,g.length=k→Tr (fun m=>zcO m rows (vs.map (·.1)) (vs.map (·.2)) g (k:Int)) (g++rowH k zs rows)) ?_ ?_ 0 (Nat.zero_le _) [] rfl
 ·exact key
 ·intro g _
  refine Tr.step (fun m=>by rw [zcO,List.length_map,z6,cond_false]) ?_
  rw [rowH,List.append_nil];exact Tr.val
 ·intro k v zs hk hx hd ih g hg
  have hx1:(vs.map (·.1))[k]?=some v.1:=by rw [List.getElem?_map,hx];rfl
  have hx2:(vs.map (·.2))[k]?=some v.2:=by rw [List.getElem?_map,hx];rfl
  have hm:=List.mem_of_getElem? hx
  have v0:=h0 v hm
  have v1:=h1 v hm
  refine Tr.step (fun m=>by rw [zcO,List.length_map,ltN hk,cond_true,zE hx1,Option.bind_some,zE hx2,Option.bind_some]) ?_
  rw [rowH]
  have inner:=zak rows (fun j ys=>∀ a:List Hit,a.length=j→(∀ r∈ys,r∈rows)→Tr (fun m=>zcN m rows (vs.map (·.1)) (vs.map (·.2)) g (k:Int) v.1 v.2 (j:Int) a) (g++Hit.mk v.1 (v.2+1) zbQ (a++ys.map fun r=>r.getD k hit0)::rowH (k+1) zs rows)) ?_ ?_ 0 (Nat.zero_le _) [] rfl (fun r hr=>by simpa using hr)
  ·exact inner
  ·intro a ha _
   refine Tr.step (fun m=>by rw [zcN,z6,cond_false,zaG (n:=v.2+1) (by omega),zaG (n:=(k:Int)+1) (by omega),zbp]) ?_
   refine Tr.chk (decide_eq_true (by simp;omega)) ?_
   have:=ih (g++[Hit.mk v.1 (v.2+1) zbQ a]) (by simp [hg])
   rw [List.append_assoc] at this
   rw [List.map_nil,List.append_nil]
   exact this
  ·intro j r ys hj hr2 hdr ihj a ha hys
   have hrl:=hl r (hys r (by simp))
   have hkr:k < r.length:=by omega
   have e:r[k]?=some (r.getD k hit0):=by rw [List.getD_eq_getElem?_getD,List.getElem?_eq_getElem hkr];rfl
   refine Tr.step (fun m=>by rw [zcN,ltN hj,cond_true,zE hr2,Option.bind_some,zE e,Option.bind_some,zbp]) ?_
   refine Tr.chk (decide_eq_true (by simp;omega)) ?_
   have:=ihj (a++[r.getD k hit0]) (by simp [ha]) (fun z hz=>hys z (by simp [hz]))
   rw [List.append_assoc] at this
   rw [List.map_cons]
   exact this
def zcg:List Form→Nat→Int→Int
 | [],_,r=>r
 | _::xs,k,r=>zcg xs (k+1) (bif zbM xs then (k:Int) else r)
theorem ze1:∀ (zs:List Form) (k:Nat) (r:Int),cntD zs=0→zbM zs=false∧zcg zs k r=r
 | [],k,r,_=>⟨rfl,rfl⟩
 | z::zs,k,r,h=>by
   rw [cntD] at h
   have h1:zK z=false:=by
    cases hz:zK z with
    | true=>rw [hz,cond_true] at h;omega
    | false=>rfl
   obtain ⟨n1,_⟩:=ze1 zs k r (by omega)
   obtain ⟨_,n2⟩:=ze1 zs (k+1) r (by omega)
   exact ⟨h1,by rw [zcg,n1,cond_false,n2]⟩
theorem lastRow_ge:∀ (zs:List Form) (k:Nat) (r:Int),zcg zs k r=r∨(k:Int)≤zcg zs k r
 | [],k,r=>.inl rfl
 | z::zs,k,r=>by
   rw [zcg]
   rcases lastRow_ge zs (k+1) (bif zbM zs then (k:Int) else r) with h | h
   ·rw [h]
    cases zbM zs with
    | true=>exact .inr (Int.le_refl _)
    | false=>exact .inl rfl
   ·exact .inr (by omega)
theorem nextD_drop {l:List Form} (h:cntD l=0) (k:Nat):zbM (l.drop k)=false:=by
 cases hd:l.drop k with
 | nil=>rfl
 | cons y ys =>
   have:∀ (l:List Form) (k:Nat),cntD l=0→cntD (l.drop k)=0:=by
    intro l
    induction l with
    | nil=>intro k _;simp [cntD]
    | cons z zs ih =>
      intro k hz
      cases k with
      | zero=>exact hz
      | succ k=>rw [List.drop_succ_cons];rw [cntD] at hz;exact ih k (by omega)
   have h2:=this l k h
   rw [hd] at h2
   exact (ze1 (y::ys) 0 0 h2).1
theorem lastRow_iff:∀ (xs:List Form) (x:Form) (j:Nat) (r:Int),cntD xs≤1→r < (j:Int)→∀ k,k < (x::xs).length→(zcg (x::xs) j r=((j+k:Nat):Int)↔zbM ((x::xs).drop (k+1))=true)
 | [],x,j,r,_,hr,k,hk=>by
   have:k=0:=by simpa using hk
   subst this
   rw [zcg,zcg]
   simp [zbM];omega
 | y::ys,x,j,r,hc,hr,k,hk=>by
   rw [cntD] at hc
   rw [zcg]
   cases hy:zK y with
   | true =>
     rw [hy,cond_true] at hc
     have C0:cntD ys=0:=by omega
     obtain ⟨n1,n2⟩:=ze1 ys (j+1+1) (j:Int) C0
     rw [show zbM (y::ys)=true from hy,cond_true,zcg,n1,cond_false,n2]
     cases k with
     | zero=>simp [zbM,hy]
     | succ k =>
       rw [List.drop_succ_cons,List.drop_succ_cons,nextD_drop C0 k]
       simp;omega
   | false =>
     rw [hy,cond_false] at hc
     rw [show zbM (y::ys)=false from hy,cond_false]
     cases k with
     | zero =>
       rw [List.drop_succ_cons,List.drop_zero,show zbM (y::ys)=false from hy]
       rcases lastRow_ge (y::ys) (j+1) r with h | h
       ·rw [h];simp;omega
       ·simp;omega
     | succ k =>
       have:=lastRow_iff ys y (j+1) r (by omega) (by omega) k (by simpa using hk)
       rw [List.drop_succ_cons,← this]
       rw [show j+1+k=j+(k+1) by omega]
theorem lastRow_neg:∀ (ps:List Form),cntD ps≤1→zK (ps.headD zbQ)=false→(zcg ps 0 (-1) < 0↔cntD ps=0)
 | [],_,_=>by simp [zcg,cntD]
 | x::xs,hc,hx=>by
   rw [List.headD_cons] at hx
   rw [cntD,hx,cond_false,Nat.zero_add] at hc ⊢
   constructor
   ·intro h
    by_cases h0:cntD xs=0
    ·exact h0
    ·exfalso
     -- the dots stand somewhere
     have:∀ (l:List Form),cntD l≠0→∃ k,k < l.length∧zbM (l.drop k)=true:=by
      intro l
      induction l with
      | nil=>intro h;exact absurd rfl h
      | cons z zs ih =>
        intro h
        cases hz:zK z with
        | true=>exact ⟨0,by simp,hz⟩
        | false =>
          rw [cntD,hz,cond_false,Nat.zero_add] at h
          obtain ⟨k,k1,k2⟩:=ih h
          exact ⟨k+1,by simpa using k1,by rw [List.drop_succ_cons];exact k2⟩
     obtain ⟨k,k1,k2⟩:=this xs h0
     have:=(lastRow_iff xs x 0 (-1) hc (by omega) k (by simp;omega)).2 (by rw [List.drop_succ_cons];exact k2)
     omega
   ·intro h0
    obtain ⟨n1,n2⟩:=ze1 xs 1 (-1) h0
    rw [zcg,n1,cond_false,n2];omega
theorem lastRow_tr (bs:List Bind) (lits:List Form) (fs:List Form) (ps:List Form) (hl:ps.length≤2 ^ 40) {Q:List Hit × Bool→Prop} (hj:TQ (fun m=>zdA m bs ps lits fs (zcg ps 0 (-1))) Q):TQ (fun m=>za8 m bs ps lits fs (-1) 0) Q:=by
 cases hp:ps with
 | nil =>
   subst hp
   exact TQ.step (fun m=>by rw [za8,zaG (by omega)];rfl) hj
 | cons x xs =>
   have key:∀ (zs:List Form) (k:Nat) (z:Form) (r:Int),ps.drop k=z::zs→k < ps.length→zcg (z::zs) k r=zcg ps 0 (-1)→TQ (fun m=>za8 m bs ps lits fs r (k:Int)) Q:=by
    intro zs
    induction zs with
    | nil =>
      intro k z r hd hk he
      have hlen:ps.length=k+1:=by have:=congrArg List.length hd;rw [List.length_drop] at this;simp at this;omega
      refine TQ.step (fun m=>by rw [za8,zaG (by omega),hlen,zbp,z6,cond_false]) ?_
      rw [zcg,zcg,show zbM []=false from rfl,cond_false] at he
      rw [he];exact hj
    | cons y ys ih =>
      intro k z r hd hk he
      have hd2:ps.drop (k+1)=y::ys:=by rw [← List.drop_drop,hd];rfl
      have hlen:k+1 < ps.length:=by
       have:=congrArg List.length hd2;rw [List.length_drop] at this;simp at this;omega
      have hy:ps[k+1]?=some y:=by
       have:=congrArg (fun l=>l[0]?) hd2
       simpa using this
      refine TQ.step (fun m=>by rw [za8,zaG (by omega),zbp,ltN hlen,cond_true,zE hy,Option.bind_some]) (TQ.ev (zeC y) ?_)
      rw [zcg] at he
      cases hdy:zK y with
      | true =>
        rw [show zbM (y::ys)=true from hdy,cond_true] at he
        exact TQ.cond (fun _=>ih (k+1) y _ hd2 hlen he) (fun h=>by cases h)
      | false =>
        rw [show zbM (y::ys)=false from hdy,cond_false] at he
        exact TQ.cond (fun h=>by cases h) (fun _=>ih (k+1) y _ hd2 hlen he)
   have:=key xs 0 x (-1) (by rw [hp];rfl) (by rw [hp];simp) (by rw [← hp])
   rw [hp] at this
   exact this
theorem mts_len {bs:List Bind} {lits:List Form}:∀ {ps fs:List Form} {h:List Hit},Form.mts bs lits ps fs=some h→(cntD ps=0→ps.length=fs.length)∧(cntD ps=1→zbM ps=true→ps.length=fs.length+1)∧(cntD ps=1→zbM ps=false→ps.length≤fs.length+2)
 | [],fs,h,hm=>by
   rw [Form.mts] at hm
   cases hz:decide (fs.length=0) with
   | true=>exact ⟨fun _=>by simpa using (of_decide_eq_true hz).symm,fun h=>by simp [cntD] at h,fun h=>by simp [cntD] at h⟩
   | false=>rw [hz] at hm;cases hm
 | p::ps,fs,h,hm=>by
   rw [cntD]
   rcases mts_cons hm with ⟨hd,hm2⟩ | ⟨hd,hn,hl,rows,h2,ha,hm2,rfl⟩ | ⟨hd,hn,f,fs',h1,h2,rfl,hf,hm2,rfl⟩
   ·obtain ⟨a,b,c⟩:=mts_len hm2
    rw [hd,cond_true]
    refine ⟨fun h=>by omega,fun h _=>?_,fun h hn=>?_⟩
    ·have:=a (by omega);rw [List.length_cons];omega
    ·have:=a (by omega);rw [List.length_cons];omega
   ·obtain ⟨a,b,c⟩:=mts_len hm2
    rw [hd,cond_false,Nat.zero_add]
    refine ⟨fun h=>?_,fun _ h=>?_,fun h _=>?_⟩
    ·rw [(ze1 ps 0 0 h).1] at hn;cases hn
    ·rw [show zbM (p::ps)=zK p from rfl,hd] at h;cases h
    ·rw [List.length_cons];omega
   ·obtain ⟨a,b,c⟩:=mts_len hm2
    rw [hd,cond_false,Nat.zero_add]
    refine ⟨fun h=>?_,fun _ h=>?_,fun h _=>?_⟩
    ·have:=a h;simp only [List.length_cons];omega
    ·rw [show zbM (p::ps)=zK p from rfl,hd] at h;cases h
    ·have:=c h hn;simp only [List.length_cons];omega
def MR (o:Option (List Hit)) (out:List Hit) (r:List Hit × Bool):Prop:=r.2=o.isSome∧∀ h,o=some h→r.1=out++h
theorem MR.none {out:List Hit} {x:List Hit}:MR none out (x,false):=⟨rfl,fun h hh=>by cases hh⟩
theorem MR.app {a b:Option (List Hit)} {h1 out:List Hit} {r:List Hit × Bool} (ha:a=some h1) (h:MR b (out++h1) r):MR (oapp a b) out r:=by
 subst ha
 cases b with
 | none=>exact ⟨h.1,fun x hx=>by simp [oapp] at hx⟩
 | some h2 =>
   refine ⟨h.1,fun x hx=>?_⟩
   simp [oapp] at hx;subst hx
   rw [h.2 h2 rfl,List.append_assoc]
theorem rowAt {ps:List Form} (hc:cntD ps≤1) {k:Nat} (hk:k < ps.length):zcg ps 0 (-1)=(k:Int)↔zbM (ps.drop (k+1))=true:=by
 cases ps with
 | nil=>simp at hk
 | cons x xs =>
   rw [cntD] at hc
   have:=lastRow_iff xs x 0 (-1) (by omega) (by omega) k hk
   rw [Nat.zero_add] at this
   exact this
structure ListS (bs:List Bind) (lits ps fs:List Form):Prop where
 kid:∀ x∈ps,KidS x
 kp:Form.kP true ps=true
 cnt:cntD ps≤1
 lp:ps.length≤2 ^ 30
 lf:fs.length≤2 ^ 30
 wp:Form.ws ps≤2 ^ 30
 ih:∀ x∈ps,zK x=false→∀ f∈fs,TQ (fun m=>zb8 m bs x lits f) (MR (x.mt bs lits f) [])
theorem rowLoop {bs:List Bind} {lits ps fs:List Form} (hS:ListS bs lits ps fs) {x:Form} {k:Nat} (hx:ps[k]?=some x) (hd:zK x=false) {row:Int} {out:List Hit} {Q:List Hit × Bool→Prop} :
  ∀ (ys:List Form) (at_:Nat) (rows:List (List Hit)),(∃ rest,fs.drop at_=ys++rest)→rows.length≤at_→(∀ rs,allM (fun f=>x.mt bs lits f) ys=some rs→TQ (fun m=>zdz m bs ps lits fs row (k:Int) out ((at_+ys.length:Nat):Int) (rows++rs)) Q)→(allM (fun f=>x.mt bs lits f) ys=none→Q (out,false)) →
    TQ (fun m=>zcr m bs ps lits fs row (k:Int) out (at_:Int) rows (ys.length:Int)) Q
 | [],at_,rows,_,_,h1,_=>by
   have:=h1 [] rfl
   rw [List.length_nil,Nat.add_zero,List.append_nil] at this
   exact TQ.step (fun m=>by rw [zcr];rfl) this
 | y::ys,at_,rows,hp,hr,h1,h2=>by
   obtain ⟨rest,hp⟩:=hp
   have hlt:at_ < fs.length:=by
    have:=congrArg List.length hp
    rw [List.length_drop] at this;simp at this;omega
   have hy:fs[at_]?=some y:=by
    have:=congrArg (fun l=>l[0]?) hp
    simpa using this
   have hlf:=hS.lf
   have hp2:fs.drop (at_+1)=ys++rest:=by rw [← List.drop_drop,hp];rfl
   refine TQ.step (fun m=>by rw [zcr,show decide ((0:Int) < ((y::ys).length:Int))=true by simp,cond_true,zE hx,Option.bind_some,zE hy,Option.bind_some]) ?_
   refine TQ.bind (hS.ih x (List.mem_of_getElem? hx) hd y (List.mem_of_getElem? hy)) (fun r hr2=>?_)
   obtain ⟨r1,r2⟩:=hr2
   cases hm:x.mt bs lits y with
   | none =>
     rw [hm] at r1
     rw [r1]
     exact TQ.cond (fun _=>TQ.val (h2 (by rw [allM,hm]))) (fun h=>by cases h)
   | some h =>
     rw [hm] at r1
     rw [r1]
     have rr:=r2 h hm
     rw [List.nil_append] at rr
     refine TQ.cond (fun h=>by cases h) (fun _=>?_)
     refine TQ.chk (decide_eq_true (by simp;omega)) ?_
     rw [rr]
     have:=rowLoop hS hx hd (row:=row) (out:=out) (Q:=Q) ys (at_+1) (rows++[h]) ⟨rest,hp2⟩ (by simp;omega) (fun rs hrs=>by
      have:=h1 (h::rs) (by rw [allM,hm];simp only;rw [hrs])
      rw [List.append_assoc]
      rw [List.length_cons] at this
      rw [show at_+1+ys.length=at_+(ys.length+1) by omega]
      exact this) (fun hn=>h2 (by rw [allM,hm];simp only;rw [hn]))
     have hyl:ys.length≤fs.length:=by
      have:=congrArg List.length hp
      rw [List.length_drop] at this;simp at this;omega
     refine TQ.eq (fun m=>by rw [zaG (by omega),zaG (by simp;omega),zbp,show (((y::ys).length:Int)-1)=(ys.length:Int) by simp]) this
theorem l4Loop {bs:List Bind} {lits ps fs:List Form} (hS:ListS bs lits ps fs):∀ (rest:List Form) (k:Nat) (out:List Hit) (at_:Nat),ps.drop k=rest→at_≤fs.length →
  ((cntD rest=0∧rest.length=fs.length-at_)∨(cntD rest=1∧zbM rest=true∧rest.length=fs.length-at_+1)∨(cntD rest=1∧zbM rest=false∧rest.length≤fs.length-at_+2∧at_=k)) →
  out.length+4*(Form.ws rest*(1+Form.ws (fs.drop at_)))≤2 ^ 37 →
  TQ (fun m=>zbD m bs ps lits fs (zcg ps 0 (-1)) (k:Int) out (at_:Int)) (MR (Form.mts bs lits rest (fs.drop at_)) out)
 | [],k,out,at_,hd,hat,hl,_=>by
   have hk:¬ k < ps.length:=by have:=congrArg List.length hd;rw [List.length_drop] at this;simp at this;omega
   have hz:(fs.drop at_).length=0:=by
    rw [List.length_drop]
    rcases hl with ⟨_,h⟩ | ⟨h,_⟩ | ⟨h,_⟩
    ·simpa using h.symm
    ·simp [cntD] at h
    ·simp [cntD] at h
   refine TQ.step (fun m=>by rw [zbD,geN hk,cond_false]) (TQ.val ?_)
   rw [Form.mts,decide_eq_true hz]
   exact ⟨rfl,fun h hh=>by cases hh;simp⟩
 | x::xs,k,out,at_,hd,hat,hl,hw=>by
   have hk:k < ps.length:=by have:=congrArg List.length hd;rw [List.length_drop] at this;simp at this;omega
   have hx:ps[k]?=some x:=by
    have:=congrArg (fun l=>l[0]?) hd
    simpa using this
   have hm:=List.mem_of_getElem? hx
   have hd2:ps.drop (k+1)=xs:=by rw [← List.drop_drop,hd];rfl
   have hlp:=hS.lp
   have hlf:=hS.lf
   rw [Form.ws] at hw
   refine TQ.step (fun m=>by rw [zbD,ltN hk,cond_true,zE hx,Option.bind_some,Option.bind_some]) (TQ.ev (zeC x) ?_)
   rw [Form.mts_eq]
   rw [cntD] at hl
   cases hdx:zK x with
   | true =>
     rw [hdx,cond_true] at hl
     refine TQ.cond (fun _=>?_) (fun h=>by cases h)
     rw [zbp,cond_true]
     refine l4Loop hS xs (k+1) out at_ hd2 hat ?_ (Nat.le_trans (Nat.add_le_add_left (Nat.mul_le_mul_left 4 (Nat.mul_le_mul_right _ (by omega))) _) hw)
     rw [List.length_cons] at hl
     rcases hl with ⟨h,_⟩ | ⟨h,_,h3⟩ | ⟨_,h,_⟩
     ·omega
     ·exact .inl ⟨by omega,by omega⟩
     ·rw [show zbM (x::xs)=zK x from rfl,hdx] at h;cases h
   | false =>
     rw [hdx,cond_false,Nat.zero_add] at hl
     have hnx:zbM (x::xs)=false:=hdx
     refine TQ.cond (fun h=>by cases h) (fun _=>?_)
     rw [cond_false]
     have hrow:=rowAt hS.cnt hk
     rw [hd2] at hrow
     cases hn:zbM xs with
     | false =>
       rw [hn] at hrow
       have hne:¬ zcg ps 0 (-1)=(k:Int):=fun h=>by have:=hrow.1 h;cases this
       rw [cond_false]
       -- a form is left
       have hlt:at_ < fs.length:=by
        rw [List.length_cons] at hl
        rcases hl with ⟨_,h⟩ | ⟨_,h,_⟩ | ⟨h1,_,h3,_⟩
        ·omega
        ·rw [hnx] at h;cases h
        ·have:2≤xs.length:=by
          cases xs with
          | nil=>simp [cntD] at h1
          | cons y ys =>
            cases ys with
            | nil =>
              rw [cntD,cntD,show zK y=false from hn] at h1;cases h1
            | cons z zs=>simp
         omega
       have hy:fs[at_]?=some fs[at_]:=List.getElem?_eq_getElem hlt
       have hdr:fs.drop at_=fs[at_]::fs.drop (at_+1):=List.drop_eq_getElem_cons hlt
       rw [hdr]
       simp only
       rw [hdr,Form.ws] at hw
       refine TQ.cond (fun _=>?_) (fun h=>absurd (fun e:(k:Int)=zcg ps 0 (-1)=>hne e.symm) (by simpa using h))
       refine TQ.eq (fun m=>by rw [zE hy,Option.bind_some]) ?_
       refine TQ.bind (hS.ih x hm hdx _ (List.mem_of_getElem? hy)) (fun r hr=>?_)
       obtain ⟨r1,r2⟩:=hr
       cases hmt:x.mt bs lits fs[at_] with
       | none =>
         rw [hmt] at r1
         rw [r1]
         exact TQ.cond (fun _=>TQ.val MR.none) (fun h=>by cases h)
       | some h1 =>
         rw [hmt] at r1
         rw [r1]
         have rr:=r2 h1 hmt
         rw [List.nil_append] at rr
         have hw1:=mt_w ((hS.kid x hm).pat hdx) hmt
         have hpr:=prod_one x.w (Form.ws xs) fs[at_].w (Form.ws (fs.drop (at_+1)))
         have hlh:=Hit.ws_len h1
         refine TQ.cond (fun h=>by cases h) (fun _=>?_)
         rw [rr]
         refine TQ.chk (decide_eq_true (by omega)) ?_
         refine TQ.mono (TQ.eq (fun m=>by rw [zbp,zaG (by omega),zbp]) (l4Loop hS xs (k+1) (out++h1) (at_+1) hd2 (by omega) ?_ (by rw [List.length_append];omega))) (fun r hr=>MR.app rfl hr)
         rw [List.length_cons] at hl
         rcases hl with ⟨h,h2⟩ | ⟨_,h,_⟩ | ⟨h1,_,h3,h4⟩
         ·exact .inl ⟨h,by omega⟩
         ·rw [hnx] at h;cases h
         ·exact .inr (.inr ⟨h1,hn,by omega,by omega⟩)
     | true =>
       rw [hn] at hrow
       have he:zcg ps 0 (-1)=(k:Int):=hrow.2 rfl
       rw [cond_true]
       obtain ⟨C1,C3,C4⟩:cntD xs=1∧xs.length+1≤fs.length-at_+2∧at_=k:=by
        rw [List.length_cons] at hl
        rcases hl with ⟨h,_⟩ | ⟨_,h,_⟩ | ⟨h1,_,h3,h4⟩
        ·rw [(ze1 xs 0 0 h).1] at hn;cases hn
        ·rw [hnx] at h;cases h
        ·exact ⟨h1,h3,h4⟩
       have hx1:1≤xs.length:=by
        cases xs with
        | nil=>simp [cntD] at C1
        | cons y ys=>simp
       have hdl:(fs.drop at_).length=fs.length-at_:=List.length_drop
       have hpl:ps.length=k+1+xs.length:=by
        have:=congrArg List.length hd;rw [List.length_drop] at this;simp at this;omega
       rw [hdl,decide_eq_false (show ¬ fs.length-at_+1 < xs.length by omega),cond_false]
       refine TQ.cond (fun h=>absurd he.symm (by simpa using h)) (fun _=>?_)
       generalize hN:fs.length-at_+1-xs.length=N
       have hNl:((fs.drop at_).take N).length=N:=by rw [List.length_take,hdl];omega
       have hn64:w64 ((fs.length:Int)-(w64 ((ps.length:Int)-2)))=((((fs.drop at_).take N).length:Nat):Int):=by
        rw [zaG (n:=(ps.length:Int)-2) (by omega),zaG (by omega),hNl];omega
       refine TQ.eq (fun m=>by rw [hn64]) (rowLoop hS hx hdx ((fs.drop at_).take N) at_ [] ⟨(fs.drop at_).drop N,(List.take_append_drop _ _).symm⟩ (by simp) (fun rows ha=>?_) (fun ha=>by rw [ha];exact MR.none))
       rw [ha,hNl,List.nil_append]
       have hlen:∀ r∈rows,r.length=(x.vd lits 0).length:=fun r hr=>by
        obtain ⟨f,_,hf⟩:=allM_mem ha r hr
        exact mt_len ((hS.kid x hm).pat hdx) hf
       have hrl:rows.length=N:=by rw [allM_len ha,hNl]
       have hxw:=Form.ws_mem hm
       have hwp:=hS.wp
       refine TQ.step (fun m=>by rw [zdz,zE hx,Option.bind_some]) (TQ.ev (l4Row_tr x lits rows (by omega) (by omega) hlen) ?_)
       have r2:=rows_w (fun f h hf=>mt_w ((hS.kid x hm).pat hdx) hf) ha
       have r3:=rowH_w (x.vd lits 0) 0 rows (fun r hr=>by rw [Nat.zero_add];exact hlen r hr)
       rw [Form.vd_fst] at r3
       have r4:=vsum_vs lits _ x (Nat.le_refl _) (hS.kid x hm).1
       have hpr:=prod_row x.w (Form.ws xs) (Form.ws ((fs.drop at_).take N)) (Form.ws ((fs.drop at_).drop N))
       rw [ws_take_drop] at hpr
       have hlh:=Hit.ws_len (rowH 0 (x.vd lits 0) rows)
       rw [List.drop_drop] at hpr
       refine TQ.chk (decide_eq_true (by omega)) ?_
       refine TQ.mono (TQ.eq (fun m=>by rw [zbp]) (l4Loop hS xs (k+1) (out++rowH 0 (x.vd lits 0) rows) (at_+N) hd2 (by omega) (.inr (.inl ⟨C1,hn,by omega⟩)) (by rw [List.length_append];omega))) (fun r hr=>?_)
       simp only
       rw [List.drop_drop]
       exact MR.app rfl hr
theorem l4List_of {bs:List Bind} {lits ps fs:List Form} (hS:ListS bs lits ps fs) (hw:4*(Form.ws ps*(1+Form.ws fs))≤2 ^ 37):TQ (fun m=>ze9 m bs ps lits fs) (MR (Form.mts bs lits ps fs) []):=by
 have hlp:=hS.lp
 have hlf:=hS.lf
 have hc:=hS.cnt
 have hhead:zK (ps.headD zbQ)=false:=by
  have:=hS.kp
  cases ps with
  | nil=>rfl
  | cons x xs =>
    rw [Form.kP,Bool.and_eq_true] at this
    rw [List.headD_cons]
    cases hd:zK x with
    | true=>rw [hd] at this;cases this.1
    | false=>rfl
 have hnd:zbM ps=false:=by
  cases ps with
  | nil=>rfl
  | cons x xs=>exact hhead
 refine TQ.step (fun m=>by rw [ze9]) (lastRow_tr bs lits fs ps (by omega) (TQ.step (fun m=>by rw [zdA]) ?_))
 have hneg:=lastRow_neg ps hc hhead
 have l4:((cntD ps=0∧ps.length=fs.length-0)∨(cntD ps=1∧zbM ps=true∧ps.length=fs.length-0+1)∨(cntD ps=1∧zbM ps=false∧ps.length≤fs.length-0+2∧0=0))→TQ (fun m=>zbT m bs ps lits fs (zcg ps 0 (-1))) (MR (Form.mts bs lits ps fs) []):=fun h=>by
  have:=l4Loop hS ps 0 [] 0 (by rw [List.drop_zero]) (Nat.zero_le _) h (by rw [List.drop_zero];simpa using hw)
  rw [List.drop_zero] at this
  exact TQ.step (fun m=>by rw [zbT];rfl) this
 have no:(∀ h,Form.mts bs lits ps fs≠some h)→TQ (fun _=>some (([]:List Hit),false)) (MR (Form.mts bs lits ps fs) []):=fun h=>by
  cases hm:Form.mts bs lits ps fs with
  | none=>exact TQ.val MR.none
  | some x=>exact absurd hm (h x)
 refine TQ.cond (fun h=>?_) (fun h=>?_)
 ·have hneg0:zcg ps 0 (-1) < 0:=by simpa using h
  have h0:=hneg.1 hneg0
  refine TQ.cond (fun h2=>no fun x hx=>?_) (fun h2=>TQ.cond (fun h3=>?_) (fun _=>l4 (.inl ⟨h0,?_⟩)))
  ·have:=(mts_len hx).1 h0
   rw [this] at h2;simp at h2
  ·have h3:0≤zcg ps 0 (-1):=by simpa using h3
   omega
  ·have:(ps.length:Int)=(fs.length:Int):=by simpa using h2
   omega
 ·have hnn:¬ zcg ps 0 (-1) < 0:=by simpa using h
  have h1:cntD ps=1:=by
   by_cases h0:cntD ps=0
   ·exact absurd (hneg.2 h0) hnn
   ·omega
  refine TQ.cond (fun _=>TQ.cond (fun h2=>no fun x hx=>?_) (fun h2=>l4 (.inr (.inr ⟨h1,hnd,?_,rfl⟩)))) (fun h3=>?_)
  ·have:=(mts_len hx).2.2 h1 hnd
   rw [zaG (by omega)] at h2
   have h2:=of_decide_eq_true h2
   omega
  ·rw [zaG (by omega)] at h2
   have h2:=of_decide_eq_false h2
   omega
  ·have h3:=of_decide_eq_false h3
   omega
theorem l4Match_n (bs:List Bind) (lits:List Form) (hbs:bs.length≤2 ^ 36):∀ (n:Nat) (p:Form),p.w≤n→PatS p→p.w≤2 ^ 17→∀ f:Form,f.w≤2 ^ 17→TQ (fun m=>zb8 m bs p lits f) (MR (p.mt bs lits f) []):=by
 intro n
 induction n with
 | zero=>intro p h;have:=p.w_kids;omega
 | succ n ih =>
   intro p hp hs hpb f hfb
   have hw:=p.w_kids
   have hfw:=f.w_kids
   obtain ⟨q1,q2,q3,q4,q5⟩:=hs.parts
   refine TQ.step (fun m=>by rw [zb8]) ?_
   rw [Form.mt_eq]
   have nil:∀ b:Bool,MR (bif b then some [] else none) [] (([]:List Hit),b):=fun b=>by
    cases b with
    | true=>exact ⟨rfl,fun h hh=>by cases hh;rfl⟩
    | false=>exact MR.none
   refine TQ.cond (fun h1=>?_) (fun h1=>?_)
   ·rw [h1,cond_true]
    refine TQ.cond (fun h2=>?_) (fun h2=>?_)
    ·rw [show decide (p.name=zgJ)=true from h2,cond_true]
     exact TQ.val (nil true)
    ·rw [show decide (p.name=zgJ)=false from h2,cond_false]
     refine TQ.ev (l4In_tr _ _) ?_
     cases inF lits p with
     | true =>
       refine TQ.cond (fun _=>?_) (fun h=>by cases h)
       rw [cond_true]
       have j1:∀ b:Bool,TQ (fun m=>zcA m b) (MR (bif b then some [] else none) []):=fun b=>TQ.step (fun m=>by rw [zcA]) (TQ.val (nil b))
       refine TQ.cond (fun h3=>?_) (fun h3=>?_)
       ·rw [h3,Bool.true_and]
        exact TQ.ev (l3Same_tr bs p f hbs) (j1 _)
       ·rw [h3,Bool.false_and]
        exact j1 false
     | false =>
       refine TQ.cond (fun h=>by cases h) (fun _=>?_)
       rw [cond_false]
       exact TQ.chk (by simp) (TQ.val ⟨rfl,fun h hh=>by cases hh;rfl⟩)
   ·rw [h1,cond_false]
    refine TQ.cond (fun h2=>?_) (fun h2=>?_)
    ·rw [h2,cond_true]
     exact TQ.ev (zcL _ _) (TQ.val (nil _))
    ·rw [h2,cond_false]
     refine TQ.cond (fun h3=>?_) (fun h3=>?_)
     ·rw [h3,cond_true];exact TQ.val MR.none
     ·rw [h3,cond_false]
      have hl1:=Form.ws_len p.kids
      have hl2:=Form.ws_len f.kids
      refine TQ.mono (TQ.bind (Q:=MR (Form.mts bs lits p.kids f.kids) []) (l4List_of ⟨q4,q2,q3,by omega,by omega,by omega,fun x hx hd g hg=>ih x (by have:=Form.ws_mem hx;omega) ((q4 x hx).pat hd) (by have:=Form.ws_mem hx;omega) g (by have:=Form.ws_mem hg;omega)⟩ ?_) (fun v hv=>TQ.val hv)) (fun r hr=>hr)
      have h4:Form.ws p.kids*(1+Form.ws f.kids)≤2 ^ 17*2 ^ 17:=Nat.mul_le_mul (by omega) (by omega)
      omega
end Go.Abs
end
section
set_option linter.unusedVariables false
set_option linter.unusedSimpArgs false
namespace Go.Abs
def bindOk (b:Bind):Bool:=nmOk b.name&&(scOk b.scopes&&(decide (1≤b.id)&&decide (b.id≤999)))
noncomputable def bvF:List Bind→List Bind→Bool
 | _,[]=>true
 | ps,b::bs=>(bindOk b&&!anys (fun c=>decide (c.name=b.name)&&same c.scopes b.scopes) ps)&&bvF (ps++[b]) bs
noncomputable def bvOk (l:List Bind):Bool:=bvF [] l&&decide ((l.length:Int)≤60)
def Bind.fit (b:Bind):Prop:=b.name.size≤9223372036854775807∧b.scopes.length≤9223372036854775807
theorem zhp (l:List Bind) (hf:∀ b∈l,b.fit):Tr (fun m=>zdn m l) (bvOk l):=by
 refine Tr.eq (fun m=>by unfold zdn;rfl) ?_
 have key:=zak l (fun k zs=>Tr (fun m=>zbg m l (k:Int)) (bvF (l.take k) zs&&decide ((l.length:Int)≤60))) ?_ ?_ 0 (Nat.zero_le _)
 ·simpa [bvOk] using key
 ·exact Tr.step (fun m=>by rw [zbg,z6,cond_false]) (Tr.step (fun m=>by rw [zbi,cond_false]) (by rw [bvF,Bool.true_and];exact Tr.val))
 ·intro k x zs hk hx hd ih
  have hm:=List.mem_of_getElem? hx
  have hxf:=hf x hm
  rw [ze3 hx] at ih
  refine Tr.step (fun m=>by rw [zbg,ltN hk,cond_true]) ?_
  by_cases h60:k≤60
  case neg =>
   refine Tr.step (fun m=>by rw [zbi,decide_eq_false (show ¬ (k:Int)≤60 by omega),cond_false]) ?_
   rw [decide_eq_false (show ¬ (l.length:Int)≤60 by omega),Bool.and_false]
   exact Tr.val
  refine Tr.step (fun m=>by rw [zbi,decide_eq_true (show (k:Int)≤60 by omega),cond_true,zE hx,Option.bind_some]) (Tr.bind (specNm_tr _) ?_)
  have j3:∀ b:Bool,bindOk x=!b→Tr (fun m=>zaK m l (k:Int) b) (bvF (l.take k) (x::zs)&&decide ((l.length:Int)≤60)):=by
   intro b hb
   rw [bvF,hb]
   cases b with
   | true=>exact Tr.step (fun m=>by rw [zaK,cond_true];rfl) Tr.val
   | false =>
     rw [Bool.not_false,Bool.true_and]
     refine Tr.step (fun m=>by rw [zaK,cond_false]) ?_
     have inner:∀ d j:Nat,j+d=k→Tr (fun m=>zbf m l (k:Int) (j:Int)) ((!anys (fun c=>decide (c.name=x.name)&&same c.scopes x.scopes) ((l.take k).drop j)&&bvF (l.take k++[x]) zs)&&decide ((l.length:Int)≤60)):=by
      intro d
      induction d with
      | zero =>
        intro j hj
        obtain rfl:j=k:=by omega
        refine Tr.step (fun m=>by rw [zbf,z6,cond_false,zaG (by omega),zbp]) ?_
        rw [show (l.take j).drop j=[] by rw [List.drop_eq_nil_iff,List.length_take];omega,anys,Bool.not_false,Bool.true_and]
        exact ih
      | succ d ihd =>
        intro j hj
        have hjl:j < l.length:=by omega
        have hy:l[j]?=some l[j]:=List.getElem?_eq_getElem hjl
        have hdr:(l.take k).drop j=l[j]::(l.take k).drop (j+1):=by
         have:(l.take k)[j]?=some l[j]:=by rw [List.getElem?_take,if_pos (by omega),hy]
         exact drop_get this
        rw [hdr,anys]
        refine Tr.step (fun m=>by rw [zbf,ltN (show j < k by omega),cond_true,zE hy,Option.bind_some,zE hx,Option.bind_some]) ?_
        have j5:∀ b:Bool,(decide (l[j].name=x.name)&&same l[j].scopes x.scopes)=b→Tr (fun m=>zbh m l (k:Int) (j:Int) b) ((!((decide (l[j].name=x.name)&&same l[j].scopes x.scopes)||anys (fun c=>decide (c.name=x.name)&&same c.scopes x.scopes) ((l.take k).drop (j+1)))&&bvF (l.take k++[x]) zs)&&decide ((l.length:Int)≤60)):=by
         intro b hb
         rw [hb]
         cases b with
         | true=>exact Tr.step (fun m=>by rw [zbh,cond_true];rfl) Tr.val
         | false=>exact Tr.step (fun m=>by rw [zbh,cond_false,zaG (by omega),zbp]) (by rw [Bool.false_or];exact ihd (j+1) (by omega))
        by_cases hn:l[j].name=x.name
        ·refine Tr.tt (decide_eq_true hn) (Tr.eq (fun m=>by rw [Option.bind_some,Option.bind_some]) (Tr.bind (l1Ints_tr _ _) (j5 _ ?_)))
         rw [decide_eq_true hn,Bool.true_and]
        ·refine Tr.ff (decide_eq_false hn) (j5 false ?_)
         rw [decide_eq_false hn,Bool.false_and]
     have:=inner k 0 (by omega)
     rw [List.drop_zero] at this
     exact this
  unfold bindOk at j3
  cases hn:nmOk x.name with
  | false=>exact Tr.tt rfl (j3 true (by rw [hn];rfl))
  | true =>
  refine Tr.ff rfl (Tr.eq (fun m=>by rw [Option.bind_some]) (Tr.bind (specSc_tr _ hxf.2) ?_))
  cases hs:scOk x.scopes with
  | false=>exact Tr.tt rfl (j3 true (by rw [hn,hs];rfl))
  | true =>
  refine Tr.ff rfl (Tr.eq (fun m=>by rw [Option.bind_some]) ?_)
  by_cases h1:x.id < 1
  ·exact Tr.tt (decide_eq_true h1) (j3 true (by rw [decide_eq_false (show ¬ 1≤x.id by omega),Bool.false_and,Bool.and_false,Bool.and_false];rfl))
  ·refine Tr.ff (decide_eq_false h1) (Tr.eq (fun m=>by rw [Option.bind_some]) (j3 _ ?_))
   rw [hn,hs,decide_eq_true (show 1≤x.id by omega),Bool.true_and,Bool.true_and,Bool.true_and]
   by_cases h2:x.id≤999
   ·rw [decide_eq_true h2,decide_eq_false (show ¬ 999 < x.id by omega)];rfl
   ·rw [decide_eq_false h2,decide_eq_true (show 999 < x.id by omega)];rfl
noncomputable def matchP (bs:List Bind) (p:Form) (lits:List Form) (f:Form):List Hit × Bool :=
 bif bvOk bs&&(patOk p lits&&f.valid) then (match p.mt bs lits f with
  | some h=>(h,true)
  | none=>([],false)) else ([],false)
theorem patOk_S {p:Form} {lits:List Form} (h:patOk p lits=true):PatS p:=by
 unfold patOk Form.valid at h
 simp only [Bool.and_eq_true] at h
 exact ⟨⟨40,h.1.1⟩,h.2.2.1⟩
theorem specMatchPattern_tr (bs:List Bind) (p:Form) (lits:List Form) (f:Form) (hb:∀ b∈bs,b.fit) (hbl:bs.length≤2 ^ 36) (hp:p.fit) (hpw:p.w≤2 ^ 17) (hl:Form.fits lits) (hlw:Form.ws lits≤2 ^ 36) (hf:f.fit) (hfw:f.w≤2 ^ 17) :
  Tr (fun m=>zds m bs p lits f) (matchP bs p lits f):=by
 refine Tr.eq (fun m=>by unfold zds;rfl) (Tr.bind (zhp bs hb) ?_)
 unfold matchP
 have no:Tr (fun m=>zaI m bs p lits f true) (([]:List Hit),false):=Tr.step (fun m=>by rw [zaI];rfl) Tr.val
 cases bvOk bs with
 | false=>exact Tr.tt rfl no
 | true =>
 refine Tr.ff rfl (Tr.bind (l4Is_tr p lits hp (by omega) hl hlw) ?_)
 cases hpo:patOk p lits with
 | false=>exact Tr.tt rfl no
 | true =>
 refine Tr.ff rfl (Tr.bind (zbR f hf (by omega)) ?_)
 cases f.valid with
 | false=>exact no
 | true =>
 refine Tr.step (fun m=>by rw [zaI,Bool.not_true,cond_false]) (TQ.tr ?_)
 rw [Bool.true_and,Bool.true_and,cond_true]
 refine TQ.bind (l4Match_n bs lits hbl _ p (Nat.le_refl _) (patOk_S hpo) hpw f hfw) (fun r hr=>?_)
 obtain ⟨r1,r2⟩:=hr
 cases hm:p.mt bs lits f with
 | none=>rw [hm] at r1;rw [r1];exact TQ.cond (fun _=>TQ.val rfl) (fun h=>by cases h)
 | some h =>
   rw [hm] at r1
   rw [r1]
   have rr:=r2 h hm
   rw [List.nil_append] at rr
   refine TQ.cond (fun h=>by cases h) (fun _=>?_)
   rw [rr]
   have hw:=mt_w (patOk_S hpo) hm
   have h4:p.w*f.w≤2 ^ 17*2 ^ 17:=Nat.mul_le_mul hpw hfw
   exact TQ.ev (l4Copy_tr h (by omega)) (TQ.val rfl)
structure DrH (n:Nat) (l:List Hit):Prop where
 w:Hit.ws l≤n
 fit:Hit.fits l
theorem Hit.ws_set:∀ (l:List Hit) (i:Nat) (x:Hit) (B:Nat),(∀ y,l[i]?=some y→x.w≤y.w+B)→Hit.ws (l.set i x)≤Hit.ws l+B
 | [],i,x,B,_=>by simp [Hit.ws]
 | y::l,0,x,B,h=>by
   have:=h y rfl
   rw [List.set_cons_zero,Hit.ws,Hit.ws];omega
 | y::l,i+1,x,B,h=>by
   have:=Hit.ws_set l i x B (fun z hz=>h z (by simpa using hz))
   rw [List.set_cons_succ,Hit.ws,Hit.ws];omega
theorem Hit.fits_set:∀ (l:List Hit) (i:Nat) (x:Hit),Hit.fits l→x.fit→Hit.fits (l.set i x)
 | [],i,x,h,_=>by simpa using h
 | y::l,0,x,h,hx=>by
   rw [Hit.fits] at h;rw [List.set_cons_zero,Hit.fits];exact ⟨hx,h.2⟩
 | y::l,i+1,x,h,hx=>by
   rw [Hit.fits] at h;rw [List.set_cons_succ,Hit.fits];exact ⟨h.1,Hit.fits_set l i x h.2 hx⟩
theorem matchP_dr {bs:List Bind} {p f:Form} {lits:List Form} (hp:Dr 400 p) (hf:Dr 400 f):DrH 640000 (matchP bs p lits f).1:=by
 have nil:DrH 640000 ([]:List Hit):=⟨by rw [Hit.ws];omega,by rw [Hit.fits];trivial⟩
 unfold matchP
 cases hb:(bvOk bs&&(patOk p lits&&f.valid)) with
 | false=>exact nil
 | true =>
   rw [cond_true]
   simp only [Bool.and_eq_true] at hb
   cases hm:p.mt bs lits f with
   | none=>exact nil
   | some h =>
     have hw:=mt_w (patOk_S hb.2.1) hm
     have h4:p.w*f.w≤400*400:=Nat.mul_le_mul hp.w hf.w
     exact ⟨by show Hit.ws h≤_;omega,mt_fit hp.fit hf.fit hm⟩
end Go.Abs
end
