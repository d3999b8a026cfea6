/- A part of the proof: what the functions that the law calls answer, as pure values. -/
import Derived.KernelRfl
import Derived.Test.YtpdacpnncmemgaaGreatKe05290cf3b33
import Derived.Test.YtpdacpnncmemgaaGreatKb1fd4d72aff3
import Derived.Test.YtpdacpnncmemgaaGreatKa647db9ee9e6
import Derived.Test.YtpdacpnncmemgaaGreatK57e2d81719e9
set_option linter.unusedSimpArgs false
set_option linter.unusedVariables false
section
set_option linter.unusedVariables false
set_option linter.unusedSimpArgs false
namespace Go.Abs
theorem byte_mem {r:zbY} {K:Int} (h:OkRd r K) {x:Int} (hx:x∈r.b):0≤x∧x < 256:=h.byte x hx
theorem tmod_lt {a b:Int} (ha:0≤a) (hb:0 < b):0≤a.tmod b∧a.tmod b < b:=by
 rw [Int.tmod_eq_emod_of_nonneg ha]
 exact ⟨Int.emod_nonneg _ (by omega),Int.emod_lt_of_pos _ hb⟩
theorem zf1 (o:zbY) (n:Int) (K:Int) (h:OkRd o K) (hK:K≤1000000000000):TQ (fun m=>z5 m o n) (fun r=>OkRd r.2 (K+1)∧r.2.b=o.b∧(0 < n→0≤r.1∧r.1 < n)∧(n≤0→r.1=0)):=by
 have h0:=h.lo
 have h1:=h.hi
 have e1:w64 (o.p+1)=o.p+1:=zaI (by omega)
 have e2:w64 (o.p+1-1)=o.p:=by rw [zaI (by omega)];omega
 have hok:OkRd (zbY.mk o.b (o.p+1)) (K+1):=⟨h.len,h.byte,by simp only;omega,by simp only;omega⟩
 refine TQ.eq (fun m=>by unfold z5;rw [e1,e2]) ?_
 refine TQ.cond (fun hc=>TQ.val ⟨hok,rfl,fun hn=>?_,fun _=>rfl⟩) (fun hc=>?_)
 ·simp at hc;omega
 have hn:0 < n:=by simp at hc;omega
 refine TQ.cond (fun C2=>TQ.val ⟨hok,rfl,fun _=>⟨Int.le_refl _,hn⟩,fun _=>rfl⟩) (fun C2=>?_)
 have hlen:0 < o.b.length:=by simp at C2;exact List.length_pos_iff.2 C2
 have hlen2:=h.len
 refine TQ.cond (fun C3=>?_) (fun C3=>?_)
 ·refine TQ.idx h0 (by simpa using C3) (fun x hx=>?_)
  obtain ⟨b0,b1⟩:=byte_mem h hx
  refine TQ.chk (by simp;omega) (TQ.val ⟨hok,rfl,fun _=>?_,fun hh=>absurd hn (by omega)⟩)
  rw [zaI (by omega)]
  exact tmod_lt b0 hn
 ·refine TQ.chk (by simp;exact List.length_pos_iff.1 hlen) ?_
  obtain ⟨i0,i1⟩:=tmod_lt h0 (show (0:Int) < o.b.length by omega)
  refine TQ.idx i0 i1 (fun x hx=>?_)
  obtain ⟨b0,b1⟩:=byte_mem h hx
  refine TQ.chk (by simp;exact List.length_pos_iff.1 hlen) ?_
  have e3:w64 (w64 (o.p*7)+3)=o.p*7+3:=by rw [zaI (n:=o.p*7) (by omega),zaI (by omega)]
  rw [e3]
  obtain ⟨j0,j1⟩:=tmod_lt (show (0:Int)≤o.p*7+3 by omega) (show (0:Int) < o.b.length by omega)
  refine TQ.idx j0 j1 (fun y hy=>?_)
  obtain ⟨c0,c1⟩:=byte_mem h hy
  refine TQ.chk (by simp;exact List.length_pos_iff.1 hlen) ?_
  refine TQ.chk (by simp;omega) (TQ.val ⟨hok,rfl,fun _=>?_,fun hh=>absurd hn (by omega)⟩)
  have q1:0≤o.p.tdiv o.b.length∧o.p.tdiv o.b.length≤o.p:=by
   rw [Int.tdiv_eq_ediv_of_nonneg h0]
   exact ⟨Int.ediv_nonneg h0 (by omega),Int.ediv_le_self _ h0⟩
  have e4:w64 (w64 (w64 (w64 (w64 x*131)+w64 (w64 y*1117))+w64 (o.p*29))+w64 (w64 (o.p.tdiv o.b.length)*53))=x*131+y*1117+o.p*29+o.p.tdiv o.b.length*53:=by
   rw [zaI (n:=x) (by omega),zaI (n:=y) (by omega),zaI (n:=x*131) (by omega),zaI (n:=y*1117) (by omega),zaI (n:=x*131+y*1117) (by omega),zaI (n:=o.p*29) (by omega),zaI (n:=o.p.tdiv o.b.length) (by omega),zaI (n:=o.p.tdiv o.b.length*53) (by omega),zaI (n:=x*131+y*1117+o.p*29) (by omega),zaI (by omega)]
  rw [e4]
  have hx0:0≤x*131+y*1117+o.p*29+o.p.tdiv o.b.length*53:=by omega
  have hx1:x*131+y*1117+o.p*29+o.p.tdiv o.b.length*53 < 2 ^ 60:=by omega
  generalize x*131+y*1117+o.p*29+o.p.tdiv o.b.length*53=z at hx0 hx1
  have hz:0≤z.tdiv 64∧z.tdiv 64≤z:=by
   rw [Int.tdiv_eq_ediv_of_nonneg hx0]
   exact ⟨by omega,by omega⟩
  rw [zaI (n:=z.tdiv 64) (by omega)]
  exact tmod_lt (xor_nonneg hx0 (by omega) hz.1 (by omega)) hn
theorem num_tq (o:zbY) (l:List Int) (K:Int) (h:OkRd o K) (hK:K≤1000000000000) (hl:0 < l.length):TQ (fun m=>zaH m o l) (fun r=>OkRd r.2 (K+1)∧r.1∈l):=by
 refine TQ.eq (fun m=>by unfold zaH;rfl) ?_
 refine TQ.bind (zf1 o _ K h hK) (fun v hv=>?_)
 obtain ⟨h1,_,h2,_⟩:=hv
 obtain ⟨h2,h3⟩:=h2 (by omega)
 exact TQ.idx h2 h3 (fun x hx=>TQ.val ⟨h1,hx⟩)
theorem of_tq (o:zbY) (l:List ByteArray) (K:Int) (h:OkRd o K) (hK:K≤1000000000000) (hl:0 < l.length):TQ (fun m=>zdl m o l) (fun r=>OkRd r.2 (K+1)∧r.1∈l):=by
 refine TQ.eq (fun m=>by unfold zdl;rfl) ?_
 refine TQ.bind (zf1 o _ K h hK) (fun v hv=>?_)
 obtain ⟨h1,_,h2,_⟩:=hv
 obtain ⟨h2,h3⟩:=h2 (by omega)
 exact TQ.idx h2 h3 (fun x hx=>TQ.val ⟨h1,hx⟩)
theorem open_tq (code:List Int) (h:∀ x∈code,0≤x∧x < 256):TQ (fun m=>zeI m code) (fun r=>OkRd r 0):=by
 refine TQ.eq (fun m=>by unfold zeI;rfl) ?_
 refine TQ.cond (fun hc=>?_) (fun hc=>?_)
 ·have hlt:2000 < code.length:=by simp at hc;omega
  have e:sub code 0 2000=some (code.take 2000):=by
   unfold sub
   have:(2000:Int)≤code.length:=by omega
   simp [this]
  refine ⟨_,Tr.eq (fun m=>by rw [e];rfl) Tr.val,⟨?_,?_,?_,?_⟩⟩
  ·simp [List.length_take];omega
  ·intro x hx;exact h x (List.mem_of_mem_take hx)
  ·simp
  ·simp
 ·refine TQ.val ⟨?_,h,?_,?_⟩
  ·simp at hc;simp;omega
  ·simp
  ·simp
end Go.Abs
end
section
set_option linter.unusedVariables false
set_option linter.unusedSimpArgs false
namespace Go.Abs
theorem zhN:∀ (n:Nat) (f:Form),f.w≤n→f.w≤2 ^ 36→Tr (fun m=>zcc m f) f:=by
 intro n
 induction n with
 | zero=>intro f h _;have:=f.w_kids;omega
 | succ n ih =>
   intro f h hb
   have hw:=f.w_kids
   have hl:=Form.ws_len f.kids
   refine Tr.step (fun m=>by rw [zcc]) ?_
   refine Tr.chk (by simp;omega) ?_
   have key:=zac f.kids (fun k ys=>∀ acc:List Form,acc.length=k→Tr (fun m=>zcm m f (k:Int) acc) (Form.mk f.kind f.name f.n f.scopes (acc++ys))) ?_ ?_ 0 (Nat.zero_le _) [] rfl
   ·rw [List.drop_zero,List.nil_append] at key
    obtain ⟨a,b,c,d,e⟩:=f
    exact key
   ·intro acc _
    refine Tr.step (fun m=>by rw [zcm,zW]) ?_
    rw [List.append_nil];exact Tr.val
   ·intro k x xs hk hx hd ihk acc hacc
    have hmem:x∈f.kids:=List.mem_of_getElem? hx
    have hxw:=Form.ws_mem hmem
    refine Tr.step (fun m=>by rw [zcm,ltN hk,zG hx,zbM]) ?_
    refine Tr.bind (ih x (by omega) (by omega)) ?_
    refine Tr.chk (by simp;omega) ?_
    have:=ihk (acc++[x]) (by simp;exact hacc)
    rwa [List.append_assoc] at this
theorem Tr.add {α:Type} {F:Nat→Option α} {v:α} (n:Nat) (h:∀ k,F (k+n)=some v):Tr F v:=⟨n,fun m hm=>by
 have:=h (m-n)
 rwa [Nat.sub_add_cancel hm] at this⟩
theorem Form.ws_set:∀ (l:List Form) (i:Nat) (x:Form) (B:Nat),(∀ y,l[i]?=some y→x.w≤y.w+B)→Form.ws (l.set i x)≤Form.ws l+B
 | [],i,x,B,_=>by simp [Form.ws]
 | y::l,0,x,B,h=>by
   have:=h y rfl
   rw [List.set_cons_zero,Form.ws,Form.ws];omega
 | y::l,i+1,x,B,h=>by
   have:=Form.ws_set l i x B (fun z hz=>h z (by simpa using hz))
   rw [List.set_cons_succ,Form.ws,Form.ws];omega
theorem Form.fits_set:∀ (l:List Form) (i:Nat) (x:Form),Form.fits l→x.fit→Form.fits (l.set i x)
 | [],i,x,h,_=>by simpa using h
 | y::l,0,x,h,hx=>by
   rw [Form.fits] at h;rw [List.set_cons_zero,Form.fits];exact ⟨hx,h.2⟩
 | y::l,i+1,x,h,hx=>by
   rw [Form.fits] at h;rw [List.set_cons_succ,Form.fits];exact ⟨h.1,Form.fits_set l i x h.2 hx⟩
def mutF (v1:Form) (o1:zbY) (fuel:Nat):Option (Form × zbY) :=
 (z5 fuel o1 14).bind fun v9 =>
 (bif (decide (v9.1=0)) then
 (zaH fuel v9.2 [0,4,1,3]).bind fun v11 =>
 some ((Form.mk v11.1 v1.name v1.n v1.scopes v1.kids),v11.2)
 else
 (bif (decide (v9.1=1)) then
 (zdl fuel v9.2 [(⟨#[]⟩:ByteArray),(⟨#[65]⟩:ByteArray),(⟨#[116,111,111,108,111,110,103,97,110,97,109,101,49]⟩:ByteArray),(⟨#[122]⟩:ByteArray),(⟨#[120,32,121]⟩:ByteArray)]).bind fun v13 =>
 some ((Form.mk v1.kind v13.1 v1.n v1.scopes v1.kids),v13.2)
 else
 (bif (decide (v9.1=2)) then
 (zaH fuel v9.2 [1000,(-1),5]).bind fun v15 =>
 some ((Form.mk v1.kind v1.name v15.1 v1.scopes v1.kids),v15.2)
 else
 (bif (decide (v9.1=3)) then
 (zaH fuel v9.2 [0,100,1,50]).bind fun v17 =>
 chk (decide ((v1.scopes.length+[v17.1].length)*8≤140737488355328)) <|
 some ((Form.mk v1.kind v1.name v1.n (v1.scopes++[v17.1]) v1.kids),v17.2)
 else
 some (v1,v9.2)))))
theorem mutF_tq (v1:Form) (o:zbY) (K:Int) (h:OkRd o K) (hK:K+2≤1000000000) (hw:v1.w≤2 ^ 36) (hf:v1.fit):TQ (mutF v1 o) (fun r=>OkRd r.2 (K+2)∧r.1.w≤v1.w+1∧r.1.fit):=by
 have hk:=v1.w_kids
 obtain ⟨f1,f2,f3,f4⟩:=hf.parts
 unfold mutF
 refine TQ.bind (zf1 o 14 _ h (by omega)) (fun v hv=>?_)
 refine TQ.cond (fun _=>?_) (fun _=>TQ.cond (fun _=>?_) (fun _=>TQ.cond (fun _=>?_) (fun _=>TQ.cond (fun _=>?_) (fun _=>?_))))
 ·exact TQ.bind (num_tq _ _ _ hv.1 (by omega) (by decide)) (fun w hw=>TQ.val ⟨hw.1.mono (by omega),by simp only [Form.w];omega,by rw [Form.fit];exact ⟨f1,f2,f3,f4⟩⟩)
 ·exact TQ.bind (of_tq _ _ _ hv.1 (by omega) (by decide)) (fun w hw=>TQ.val ⟨hw.1.mono (by omega),by simp only [Form.w];omega,by
   rw [Form.fit]
   refine ⟨?_,f2,f3,f4⟩
   have h2:=hw.2
   simp only [List.mem_cons,List.not_mem_nil,or_false] at h2
   rcases h2 with h2 | h2 | h2 | h2 | h2<;>rw [h2]<;>decide⟩)
 ·exact TQ.bind (num_tq _ _ _ hv.1 (by omega) (by decide)) (fun w hw=>TQ.val ⟨hw.1.mono (by omega),by simp only [Form.w];omega,by rw [Form.fit];exact ⟨f1,f2,f3,f4⟩⟩)
 ·exact TQ.bind (num_tq _ _ _ hv.1 (by omega) (by decide)) (fun w hw=>TQ.chk (by simp;omega) (TQ.val ⟨hw.1.mono (by omega),by simp only [Form.w,List.length_append,List.length_cons,List.length_nil];omega,by rw [Form.fit];exact ⟨f1,by simp only [List.length_append,List.length_cons,List.length_nil];omega,f3,f4⟩⟩))
 ·exact TQ.val ⟨hv.1.mono (by omega),Nat.le_succ _,hf⟩
theorem zhj:∀ (n:Nat) (c:Form) (o:zbY) (K:Int),c.w≤n→OkRd o K→c.w≤2 ^ 30→c.fit→K+3*c.w≤1000000000→TQ (fun m=>zav m o c) (fun r=>OkRd r.2 (K+3*c.w)∧r.1.w≤c.w+1∧r.1.fit):=by
 intro n
 induction n with
 | zero=>intro c o K h;have:=c.w_kids;omega
 | succ n ih =>
   intro c o K h ho hb hf hK
   have hw:=c.w_kids
   obtain ⟨f1,f2,f3,f4⟩:=hf.parts
   refine TQ.step (fun m=>by rw [zav]) ?_
   refine TQ.ev (zhN _ c (Nat.le_refl _) (by omega)) ?_
   refine TQ.cond (fun hc=>?_) (fun _=>?_)
   ·have hpos:0 < c.kids.length:=by simpa using hc
    have hl:=Form.ws_len c.kids
    refine TQ.bind (zf1 o 2 _ ho (by omega)) (fun v hv=>?_)
    refine TQ.cond (fun _=>?_) (fun _=>?_)
    ·refine TQ.bind (zf1 _ _ _ hv.1 (by omega)) (fun w hw2=>?_)
     obtain ⟨h1,_,h2,_⟩:=hw2
     obtain ⟨h2,h3⟩:=h2 (by omega)
     obtain ⟨x,hx,hm⟩:=idx_int h2 h3
     have hxw:=Form.ws_mem hm
     have hx2:=(zdT hx).2.2
     obtain ⟨r,hr,q1,q2,q3⟩:=ih x w.2 _ (by omega) h1 (by omega) (Form.fits_mem f4 hm) (by omega)
     refine ⟨_,Tr.idx hx (Tr.bind hr (Tr.idx hx Tr.val)),q1.mono (by omega),?_,?_⟩
     ·have:=Form.ws_set c.kids w.1.toNat r.1 1 (fun y hy=>by rw [hx2] at hy;cases hy;exact q2)
      simp only [Form.w];omega
     ·rw [Form.fit];exact ⟨f1,f2,by rw [List.length_set];exact f3,Form.fits_set _ _ _ f4 q3⟩
    ·exact (mutF_tq c _ _ hv.1 (by omega) (by omega) hf).mono (fun r hr=>⟨hr.1.mono (by omega),hr.2⟩)
   ·exact (mutF_tq c _ _ ho (by omega) (by omega) hf).mono (fun r hr=>⟨hr.1.mono (by omega),hr.2⟩)
end Go.Abs
end
section
set_option linter.unusedVariables false
set_option linter.unusedSimpArgs false
namespace Go.Abs
theorem Form.fits_app:∀ {a b:List Form},Form.fits a→Form.fits b→Form.fits (a++b)
 | [],b,_,hb=>hb
 | x::a,b,ha,hb=>by rw [Form.fits] at ha;rw [List.cons_append,Form.fits];exact ⟨ha.1,Form.fits_app ha.2 hb⟩
theorem set_mid {α:Type} (d:List α) (x y:α) (zs:List α):(d++x::zs).set d.length y=(d++[y])++zs:=by
 rw [List.set_append_right _ _ (Nat.le_refl _),Nat.sub_self,List.set_cons_zero,List.append_assoc];rfl
theorem dressLoop {L:Nat→Int→List Int→Int→List Form→Option (Form × zbY)} {fin:List Form→Form}
  (h0:∀ m k b p acc,L (m+1) k b p acc=bif decide (k < (acc.length:Int)) then (idx acc k).bind fun x=>(zbU m (zbY.mk b p) x).bind fun r=>(idx acc k).bind fun _=>L m (k+1) r.2.b r.2.p (acc.set k.toNat r.1) else some (fin acc,zbY.mk b p)) :
  ∀ (zs d:List Form) (o:zbY) (K:Int),(∀ x∈zs,∀ (o:zbY) (K:Int),OkRd o K→K+3*x.w≤1000000000→TQ (fun m=>zbU m o x) (fun r=>OkRd r.2 (K+x.w)∧r.1.w≤4*x.w∧r.1.fit))→OkRd o K→K+3*Form.ws zs≤1000000000→Form.fits d →
    TQ (fun m=>L m (d.length:Int) o.b o.p (d++zs)) (fun r=>∃ e,r.1=fin e∧Form.ws e≤Form.ws d+4*Form.ws zs∧Form.fits e∧e.length=d.length+zs.length∧OkRd r.2 (K+Form.ws zs))
 | [],d,o,K,_,ho,_,hd=>by
   refine TQ.step (fun m=>by rw [h0,List.append_nil,zW,cond_false]) (TQ.val ⟨d,rfl,by simp [Form.ws],hd,by simp,?_⟩)
   simpa [Form.ws] using ho.mk'
 | x::zs,d,o,K,hx,ho,hK,hd=>by
   rw [Form.ws] at hK
   have hi:(d++x::zs)[d.length]?=some x:=by simp
   refine TQ.step (fun m=>by rw [h0,ltN (by simp),cond_true,zG hi,Option.bind_some,Int.toNat_natCast]) ?_
   refine TQ.bind (hx x (by simp) _ K ho.mk' (by omega)) (fun r hr=>?_)
   refine TQ.eq (fun m=>by rw [Option.bind_some,set_mid,show (d.length:Int)+1=((d++[r.1]).length:Int) by simp]) ?_
   refine TQ.mono (dressLoop h0 zs (d++[r.1]) r.2 (K+x.w) (fun y hy=>hx y (by simp [hy])) hr.1 (by omega) (Form.fits_app hd (by rw [Form.fits,Form.fits];exact ⟨hr.2.2,trivial⟩))) (fun q hq=>?_)
   obtain ⟨e,e1,e2,e3,e4,e5⟩:=hq
   refine ⟨e,e1,?_,e3,by rw [e4];simp;omega,e5.mono (by rw [Form.ws];omega)⟩
   rw [Form.ws_append,Form.ws,Form.ws] at e2
   rw [Form.ws];omega
theorem l1Dress_tq:∀ (n:Nat) (c:Form) (o:zbY) (K:Int),c.w≤n→OkRd o K→c.w≤2 ^ 30→c.fit→K+3*c.w≤1000000000→TQ (fun m=>zbU m o c) (fun r=>OkRd r.2 (K+c.w)∧r.1.w≤4*c.w∧r.1.fit):=by
 intro n
 induction n with
 | zero=>intro c o K h;have:=c.w_kids;omega
 | succ n ih =>
   intro c o K h ho hb hf hK
   have hw:=c.w_kids
   have hlen:=Form.ws_len c.kids
   obtain ⟨f1,f2,f3,f4⟩:=hf.parts
   have step:∀ x∈c.kids,∀ (o:zbY) (K:Int),OkRd o K→K+3*x.w≤1000000000→TQ (fun m=>zbU m o x) (fun r=>OkRd r.2 (K+x.w)∧r.1.w≤4*x.w∧r.1.fit):=fun x hx o K ho hK=>by
    have:=Form.ws_mem hx
    exact ih x o K (by omega) ho (by omega) (Form.fits_mem f4 hx) hK
   refine TQ.step (fun m=>by rw [zbU]) (TQ.ev (zhN _ c (Nat.le_refl _) (by omega)) ?_)
   refine TQ.cond (fun _=>?_) (fun _=>?_)
   ·refine TQ.bind (zf1 o _ _ ho (by omega)) (fun v hv=>?_)
    obtain ⟨h1,_,h2,_⟩:=hv
    obtain ⟨h2,h3⟩:=h2 (by decide)
    refine TQ.idx h2 h3 (fun sc hsc=>?_)
    have hsl:sc.length≤3:=by
     simp only [List.mem_cons,List.not_mem_nil,or_false] at hsc
     rcases hsc with h | h | h | h | h | h | h<;>rw [h]<;>decide
    refine TQ.chk (decide_eq_true (by simp only [List.length_nil];omega)) ?_
    have key:=dressLoop (L:=fun m k b p acc=>zct m c sc k b p acc) (fin:=fun e=>Form.mk c.kind c.name c.n (([]:List Int)++sc) e) (fun m k b p acc=>by rw [zct]) c.kids [] v.2 (K+1) step h1 (by omega) (by rw [Form.fits];trivial)
    refine TQ.mono key (fun r hr=>?_)
    obtain ⟨e,e1,e2,e3,e4,e5⟩:=hr
    simp only [Form.ws,List.length_nil,Nat.zero_add] at e2 e4
    refine ⟨e5.mono (by omega),?_,?_⟩
    ·rw [e1];simp only [Form.w,List.nil_append];omega
    ·rw [e1,Form.fit];exact ⟨f1,by rw [List.nil_append];omega,by omega,e3⟩
   ·have key:=dressLoop (L:=fun m k b p acc=>zcs m c k b p acc) (fin:=fun e=>Form.mk c.kind c.name c.n c.scopes e) (fun m k b p acc=>by rw [zcs]) c.kids [] o K step ho (by omega) (by rw [Form.fits];trivial)
    refine TQ.mono key (fun r hr=>?_)
    obtain ⟨e,e1,e2,e3,e4,e5⟩:=hr
    simp only [Form.ws,List.length_nil,Nat.zero_add] at e2 e4
    refine ⟨e5.mono (by omega),?_,?_⟩
    ·rw [e1];simp only [Form.w];omega
    ·rw [e1,Form.fit];exact ⟨f1,f2,by omega,e3⟩
end Go.Abs
end
section
set_option linter.unusedVariables false
namespace Go.Abs
mutual
def Form.fitB:Form→Bool
 | .mk _ name _ scopes kids=>decide (name.size≤100)&&(decide (scopes.length≤100)&&(decide (kids.length≤100)&&Form.fitBs kids))
def Form.fitBs:List Form→Bool
 | []=>true
 | f::fs=>f.fitB&&Form.fitBs fs
end
mutual
theorem Form.fitB_fit:∀ {f:Form},f.fitB=true→f.fit
 | .mk a b c d e,h=>by
   rw [Form.fitB] at h
   simp only [Bool.and_eq_true,decide_eq_true_eq] at h
   rw [Form.fit]
   exact ⟨by omega,by omega,by omega,Form.fitBs_fit h.2.2.2⟩
theorem Form.fitBs_fit:∀ {l:List Form},Form.fitBs l=true→Form.fits l
 | [],_=>by rw [Form.fits];trivial
 | f::fs,h=>by
   rw [Form.fitBs,Bool.and_eq_true] at h
   rw [Form.fits];exact ⟨Form.fitB_fit h.1,Form.fitBs_fit h.2⟩
end
structure ze0 (s:ByteArray) (f:Form):Prop where
 tr:Tr (fun m=>zdJ m s) f
 w:f.w≤100
 fit:f.fit
def Pairs:List (Form × Form)→List (List ByteArray)→Prop
 | [],l=>l=[]
 | p::ps,l=>∃ x xs,l=x::xs∧(∃ a b,x=[a,b]∧ze0 a p.1∧ze0 b p.2)∧Pairs ps xs
theorem Pairs.mem:∀ {ps:List (Form × Form)} {l:List (List ByteArray)},Pairs ps l→∀ x∈l,∃ p∈ps,∃ a b,x=[a,b]∧ze0 a p.1∧ze0 b p.2
 | [],l,h,x,hx=>by rw [Pairs] at h;subst h;cases hx
 | p::ps,l,h,x,hx=>by
   rw [Pairs] at h
   obtain ⟨y,ys,rfl,h1,h2⟩:=h
   rcases List.mem_cons.1 hx with rfl | hx
   ·exact ⟨p,by simp,h1⟩
   ·obtain ⟨q,hq,r⟩:=Pairs.mem h2 x hx
    exact ⟨q,by simp [hq],r⟩
end Go.Abs
end
section
set_option linter.unusedVariables false
set_option linter.unusedSimpArgs false
namespace Go.Abs
theorem Form.fits_one {f:Form} (h:f.fit):Form.fits [f]:=by rw [Form.fits,Form.fits];exact ⟨h,trivial⟩
theorem Form.fits_nil:Form.fits []:=by rw [Form.fits];trivial
theorem TQ.same {α:Type} {F:Nat→Option α} {v:α} (h:Tr F v):TQ F (fun r=>r=v):=⟨v,h,rfl⟩
theorem TQ.tr {α:Type} {F:Nat→Option α} {v:α} (h:TQ F (fun r=>r=v)):Tr F v:=by obtain ⟨r,h,rfl⟩:=h;exact h
theorem TQ.at {α β:Type} {l:List α} {i:Int} {x:α} {g:α→Nat→Option β} {R:β→Prop} (hx:Abs.idx l i=some x) (h:TQ (fun m=>g x m) R):TQ (fun m=>(Abs.idx l i).bind fun y=>g y m) R:=by
 obtain ⟨w,hw,hr⟩:=h
 exact ⟨w,Tr.idx hx hw,hr⟩
structure Dr (n:Nat) (f:Form):Prop where
 w:f.w≤n
 fit:f.fit
theorem Dr.mono {n k:Nat} {f:Form} (h:Dr n f) (hk:n≤k):Dr k f:=⟨Nat.le_trans h.w hk,h.fit⟩
theorem ze0.dr {s:ByteArray} {f:Form} (h:ze0 s f):Dr 100 f:=⟨h.w,h.fit⟩
theorem mutate2_tq (c:Form) (o:zbY) (K:Int) (ho:OkRd o K) (hc:Dr 1000 c) (hK:K≤1000000) {β:Type} {g:Form→zbY→Nat→Option β} {R:β→Prop}
  (h:∀ f o',OkRd o' (K+7000)→Dr (c.w+2) f→TQ (fun m=>g f o' m) R):TQ (fun m=>(zav m o c).bind fun v=>(zav m v.2 v.1).bind fun u=>g u.1 u.2 m) R:=by
 have h1:=hc.w
 refine TQ.bind (zhj _ c o K (Nat.le_refl _) ho (by omega) hc.fit (by omega)) (fun v hv=>?_)
 obtain ⟨v1,v2,v3⟩:=hv
 refine TQ.bind (zhj _ v.1 v.2 _ (Nat.le_refl _) v1 (by omega) v3 (by omega)) (fun u hu=>?_)
 obtain ⟨u1,u2,u3⟩:=hu
 exact h _ _ (u1.mono (by omega)) ⟨by omega,u3⟩
theorem nameForm_dr {s:ByteArray} (h:s.size≤100):Dr 1 (Form.mk 1 s 0 ([]:List Int) ([]:List Form)):=⟨by simp [Form.w,Form.ws],by rw [Form.fit,Form.fits];simp;omega⟩
def elseF:Form:=Form.mk 1 (⟨#[101,108,115,101]⟩:ByteArray) 0 ([]:List Int) ([]:List Form)
theorem elseF_dr:Dr 1 elseF:=nameForm_dr (by decide)
theorem pairs_tq {l:List (List ByteArray)} {ps:List (Form × Form)} (hl:Pairs ps l) {i:Int} (h0:0≤i) (h1:i < l.length):∃ p∈ps,∃ a b,Abs.idx l i=some [a,b]∧ze0 a p.1∧ze0 b p.2:=by
 obtain ⟨x,hx,hm⟩:=idx_int h0 h1
 obtain ⟨p,hp,a,b,rfl,h2,h3⟩:=hl.mem x hm
 exact ⟨p,hp,a,b,hx,h2,h3⟩
theorem idx2_0 {α:Type} (a b:α):Abs.idx [a,b] 0=some a:=rfl
theorem idx2_1 {α:Type} (a b:α):Abs.idx [a,b] 1=some b:=rfl
def lits4 (l:List Form):Prop:=l=[elseF]∨l=[]
theorem lits4.dr {l:List Form} (h:lits4 l):Form.ws l≤2∧Form.fits l∧l.length≤1:=by
 rcases h with rfl | rfl
 ·exact ⟨by decide,Form.fits_one elseF_dr.fit,by decide⟩
 ·exact ⟨by decide,Form.fits_nil,by decide⟩
end Go.Abs
end
section
set_option linter.unusedVariables false
set_option linter.unusedSimpArgs false
namespace Go.Abs
theorem loop_app {α β γ:Type} {xs:List α} {c:Nat} {f:α→β} {L:Nat→Int→List β→Option γ} {E:Nat→α→Option β} {fin:List β→γ}
  (h0:∀ m k acc,L (m+1) k acc=bif decide (k < (xs.length:Int)) then (idx xs k).bind fun a=>(E m a).bind fun v=>chk (decide ((acc.length+[v].length)*c≤140737488355328)) (L m (k+1) (acc++[v])) else some (fin acc))
  (hE:∀ a∈xs,Tr (fun m=>E m a) (f a)) (acc0:List β) (hb:(acc0.length+xs.length)*c≤140737488355328):Tr (fun m=>L m 0 acc0) (fin (acc0++xs.map f)):=by
 have key:=zac xs (fun k zs=>∀ acc:List β,(acc.length+zs.length)*c≤140737488355328→Tr (fun m=>L m (k:Int) acc) (fin (acc++zs.map f))) ?_ ?_ 0 (Nat.zero_le _) acc0 (by simpa using hb)
 ·simpa using key
 ·intro acc _
  refine Tr.step (fun m=>by rw [h0,zW,cond_false]) ?_
  rw [List.map_nil,List.append_nil];exact Tr.val
 ·intro k x zs hk hx hd ih acc hc
  refine Tr.step (fun m=>by rw [h0,ltN hk,cond_true,zG hx,Option.bind_some,zbM]) ?_
  refine Tr.bind (hE x (List.mem_of_getElem? hx)) ?_
  have C1:(acc.length+1)*c≤140737488355328:=Nat.le_trans (Nat.mul_le_mul_right c (by simp)) hc
  refine Tr.chk (decide_eq_true (by simpa using C1)) ?_
  have:=ih (acc++[f x]) (by
   refine Nat.le_trans (Nat.mul_le_mul_right c ?_) hc
   simp;omega)
  rwa [List.append_assoc] at this
theorem clone_tr (l:List Int) (h:l.length≤2 ^ 36):Tr (fun m=>zdB m l) l :=
 Tr.eq (fun m=>by unfold zdB;rfl) (Tr.chk (decide_eq_true (by simp;omega)) Tr.val)
theorem copyForm_n:∀ (n:Nat) (f:Form),f.w≤n→f.w≤2 ^ 36→Tr (fun m=>zaN m f) f:=by
 intro n
 induction n with
 | zero=>intro f h _;have:=f.w_kids;omega
 | succ n ih =>
   intro f h hb
   have hw:=f.w_kids
   have hl:=Form.ws_len f.kids
   refine Tr.step (fun m=>by rw [zaN]) (Tr.bind (clone_tr _ (by omega)) ?_)
   have:=loop_app (xs:=f.kids) (c:=80) (f:=fun x=>x) (L:=fun m k acc=>zch m f f.scopes k acc) (E:=fun m a=>zaN m a) (fin:=fun g=>Form.mk f.kind f.name f.n f.scopes g)
    (fun m k acc=>by rw [zch]) (fun a ha=>ih a (by have:=Form.ws_mem ha;omega) (by have:=Form.ws_mem ha;omega)) [] (by simp;omega)
   rw [List.map_id',List.nil_append] at this
   obtain ⟨a,b,c,d,e⟩:=f
   exact this
theorem zgB (f:Form) (h:f.w≤2 ^ 36):Tr (fun m=>zaN m f) f:=copyForm_n _ f (Nat.le_refl _) h
theorem mxInts_tr (a b:List Int):Tr (fun m=>zgm m a b) (same a b):=by
 refine Tr.eq (fun m=>by unfold zgm;rfl) ?_
 by_cases h:a.length=b.length
 ·exact Tr.ff (lenE h) (loop_eqI h (L:=fun m k=>zcV m a b k) (fun m k=>by rw [zcV]))
 ·rw [same_len h];exact Tr.tt (lenB h) Tr.val
theorem Form.vs_w (lits:List Form) (f:Form):∀ x∈f.vs lits,x.w≤f.w:=by
 have key:∀ (n:Nat) (f:Form),f.w≤n→∀ x∈f.vs lits,x.w≤f.w:=by
  intro n
  induction n with
  | zero=>intro f h;have:=f.w_kids;omega
  | succ n ih =>
    intro f h x hx
    have hw:=f.w_kids
    rw [Form.vs_eq] at hx
    rcases List.mem_append.1 hx with hx | hx
    ·cases hv:zdt lits f with
     | true=>rw [hv,cond_true,List.mem_singleton] at hx;subst hx;exact Nat.le_refl _
     | false=>rw [hv,cond_false] at hx;cases hx
    ·have k2:∀ l:List Form,Form.ws l≤n→x∈Form.kVs lits l→x.w≤Form.ws l:=by
      intro l
      induction l with
      | nil=>intro _ hx;rw [Form.kVs] at hx;cases hx
      | cons y l ihl =>
        intro hl hx
        rw [Form.ws] at hl ⊢
        rw [Form.kVs] at hx
        rcases List.mem_append.1 hx with hx | hx
        ·have:=ih y (by omega) x hx;omega
        ·have:=ihl (by omega) hx;omega
     have:=k2 f.kids (by omega) hx
     omega
 exact key _ f (Nat.le_refl _)
mutual
noncomputable def Form.part (x:Form):Form→Bool
 | .mk a b c d kids=>same (Form.mk a b c d kids) x||Form.parts x kids
noncomputable def Form.parts (x:Form):List Form→Bool
 | []=>false
 | y::ys=>Form.part x y||Form.parts x ys
end
theorem Form.part_eq (x f:Form):Form.part x f=(same f x||Form.parts x f.kids):=by obtain ⟨a,b,c,d,e⟩:=f;rw [Form.part];rfl
theorem parts_mem {x:Form}:∀ {l:List Form} {y:Form},y∈l→Form.part x y=true→Form.parts x l=true
 | z::l,y,hy,h=>by
   rw [Form.parts,Bool.or_eq_true]
   rcases List.mem_cons.1 hy with rfl | hy
   ·exact .inl h
   ·exact .inr (parts_mem hy h)
theorem ltI {a b:Int} (h:a < b):decide (a < b)=true:=decide_eq_true h
end Go.Abs
end
section
set_option linter.unusedVariables false
set_option linter.unusedSimpArgs false
namespace Go.Abs
noncomputable def hAt (l:List Hit) (f:Form):Int:=fnd (fun x=>same x.name f) l 0
theorem hitAt_tr (l:List Hit) (f:Form):Tr (fun m=>zfg m l f) (hAt l f):=by
 refine Tr.eq (fun m=>by unfold zfg;rfl) (Tr.bind ?_ Tr.val)
 refine Tr.eq (fun m=>by unfold za9;rfl) ?_
 exact zdG (xs:=l) (L:=fun m j=>zO m l f j) (E:=fun m y=>zdO m y f) (fun m j=>by rw [zO]) (fun y _=>Tr.eq (fun m=>by unfold zdO;rfl) (Tr.bind (zbZ _ _) Tr.val))
theorem fnd_at {α:Type} {D:α→Bool}:∀ {l:List α} {k:Nat},(fnd D l k=-1∧∀ x∈l,D x=false)∨∃ i x,fnd D l k=((k+i:Nat):Int)∧l[i]?=some x∧D x=true∧∀ y∈l.take i,D y=false
 | [],k=>.inl ⟨rfl,fun x hx=>by cases hx⟩
 | z::l,k=>by
   rw [fnd]
   cases h:D z with
   | true=>exact .inr ⟨0,z,rfl,rfl,h,fun y hy=>by cases hy⟩
   | false =>
     rw [cond_false]
     rcases fnd_at (D:=D) (l:=l) (k:=k+1) with ⟨h1,h2⟩ | ⟨i,x,h1,h2,h3,h4⟩
     ·exact .inl ⟨h1,fun x hx=>by
       rcases List.mem_cons.1 hx with rfl | hx
       ·exact h
       ·exact h2 x hx⟩
     ·exact .inr ⟨i+1,x,by rw [h1];congr 1;omega,by simpa using h2,h3,fun y hy=>by
       rw [List.take_succ_cons] at hy
       rcases List.mem_cons.1 hy with rfl | hy
       ·exact h
       ·exact h4 y hy⟩
def hit0:Hit:=Hit.mk (Form.mk 0 (⟨#[]⟩:ByteArray) 0 ([]:List Int) ([]:List Form)) 0 (Form.mk 0 (⟨#[]⟩:ByteArray) 0 ([]:List Int) ([]:List Form)) ([]:List Hit)
end Go.Abs
end
section
set_option linter.unusedVariables false
set_option linter.unusedSimpArgs false
namespace Go.Abs
def anys {α:Type} (D:α→Bool):List α→Bool
 | []=>false
 | x::xs=>D x||anys D xs
theorem anys_iff {α:Type} {D:α→Bool}:∀ {l:List α},anys D l=true↔∃ x∈l,D x=true
 | []=>by simp [anys]
 | x::xs=>by rw [anys,Bool.or_eq_true,anys_iff];simp
theorem loop_any {α:Type} {xs:List α} {D:α→Bool} {L:Nat→Int→Option Bool} {E:Nat→α→Option Bool}
  (h0:∀ m k,L (m+1) k=bif decide (k < (xs.length:Int)) then (idx xs k).bind fun a=>(E m a).bind fun v=>bif v then some true else L m (k+1) else some false)
  (hE:∀ a∈xs,Tr (fun m=>E m a) (D a)):Tr (fun m=>L m 0) (anys D xs):=by
 have key:=zac xs (fun k zs=>Tr (fun m=>L m (k:Int)) (anys D zs)) ?_ ?_ 0 (Nat.zero_le _)
 ·simpa using key
 ·exact Tr.step (fun m=>by rw [h0,zW,cond_false];rfl) Tr.val
 ·intro k x zs hk hx hd ih
  refine Tr.step (fun m=>by rw [h0,ltN hk,cond_true,zG hx,Option.bind_some,zbM]) ?_
  refine Tr.bind (hE x (List.mem_of_getElem? hx)) ?_
  rw [anys]
  cases h:D x with
  | true=>exact Tr.tt rfl Tr.val
  | false=>exact Tr.ff rfl (by simpa using ih)
def hasB (l:List Int) (n:Int):Bool:=anys (fun x=>decide (x=n)) l
def withinB (a b:List Int):Bool:=alls (fun x=>hasB b x) a
def bind0:Bind:=Bind.mk (⟨#[]⟩:ByteArray) [] 0
def bAt (l:List Bind) (i:Int):Bind:=l.getD i.toNat bind0
theorem bAt_idx {l:List Bind} {i:Int} (h0:0≤i) (h1:i < l.length):idx l i=some (bAt l i):=by
 obtain ⟨k,rfl⟩:=Int.eq_ofNat_of_zero_le h0
 have hk:k < l.length:=by omega
 rw [zG (List.getElem?_eq_getElem hk)]
 unfold bAt
 rw [Int.toNat_natCast,List.getD_eq_getElem?_getD,List.getElem?_eq_getElem hk];rfl
def fitB (f:Form) (b:Bind):Bool:=decide (b.name=f.name)&&withinB b.scopes f.scopes
def fitsF (f:Form):List Bind→Nat→List Int
 | [],_=>[]
 | b::bs,k=>(bif fitB f b then [(k:Int)] else [])++fitsF f bs (k+1)
def fitsB (l:List Bind) (f:Form):List Int:=fitsF f l 0
theorem fitsF_mem {f:Form}:∀ {l:List Bind} {k:Nat} {i:Int},i∈fitsF f l k→∃ j b,i=((k+j:Nat):Int)∧l[j]?=some b∧fitB f b=true
 | b::bs,k,i,h=>by
   rw [fitsF] at h
   rcases List.mem_append.1 h with h | h
   ·cases hb:fitB f b with
    | true=>rw [hb,cond_true,List.mem_singleton] at h;exact ⟨0,b,by simpa using h,rfl,hb⟩
    | false=>rw [hb,cond_false] at h;cases h
   ·obtain ⟨j,c,h1,h2,h3⟩:=fitsF_mem h
    exact ⟨j+1,c,by rw [h1];congr 1;omega,by simpa using h2,h3⟩
theorem fitsB_mem {l:List Bind} {f:Form} {i:Int} (h:i∈fitsB l f):0≤i∧i < l.length:=by
 obtain ⟨j,b,h1,h2,_⟩:=fitsF_mem h
 have:=(List.getElem?_eq_some_iff.1 h2).1
 omega
def bestB (l:List Bind) (fits:List Int) (i:Int):Bool:=alls (fun j=>withinB (bAt l j).scopes (bAt l i).scopes) fits
def firstB (l:List Bind) (fits:List Int):List Int→Option Int
 | []=>none
 | i::is=>bif bestB l fits i then some i else firstB l fits is
def refB (l:List Bind) (f:Form):Int × Int :=
 match firstB l (fitsB l f) (fitsB l f) with
 | some i=>(i,1)
 | none=>(0,bif decide (0 < ((fitsB l f).length:Int)) then 2 else 0)
theorem firstB_mem {l:List Bind} {fits:List Int}:∀ {is:List Int} {i:Int},firstB l fits is=some i→i∈is
 | z::is,i,h=>by
   rw [firstB] at h
   cases hb:bestB l fits z with
   | true=>rw [hb,cond_true] at h;cases h;simp
   | false=>rw [hb,cond_false] at h;simp [firstB_mem h]
theorem refB_cases (l:List Bind) (f:Form):(∃ i,refB l f=(i,1)∧0≤i∧i < (l.length:Int))∨refB l f=(0,2)∨refB l f=(0,0):=by
 unfold refB
 cases h:firstB l (fitsB l f) (fitsB l f) with
 | some i=>exact .inl ⟨i,rfl,fitsB_mem (firstB_mem h)⟩
 | none=>cases decide (0 < ((fitsB l f).length:Int)) with
   | true=>exact .inr (.inl rfl)
   | false=>exact .inr (.inr rfl)
def refS (l:List Bind) (a b:Form):Bool :=
 decide ((refB l a).2=(refB l b).2)&&(!decide ((refB l a).2=2)&&(bif decide ((refB l a).2=0) then decide (a.name=b.name) else decide ((bAt l (refB l a).1).id=(bAt l (refB l b).1).id)))
end Go.Abs
end
section
set_option linter.unusedVariables false
set_option linter.unusedSimpArgs false
namespace Go.Abs
def rowH:Nat→List (Form × Int)→List (List Hit)→List Hit
 | _,[],_=>[]
 | k,v::vs,rows=>Hit.mk v.1 (v.2+1) zcr (rows.map fun r=>r.getD k hit0)::rowH (k+1) vs rows
theorem rowH_name:∀ (vs:List (Form × Int)) (k:Nat) (rows:List (List Hit)),(rowH k vs rows).map Hit.name=vs.map (·.1)
 | [],k,rows=>rfl
 | v::vs,k,rows=>by rw [rowH,List.map_cons,List.map_cons,rowH_name vs];rfl
def allM {α β:Type} (D:α→Option β):List α→Option (List β)
 | []=>some []
 | x::xs=>match D x with
   | none=>none
   | some y=>match allM D xs with
     | none=>none
     | some ys=>some (y::ys)
theorem allM_len {α β:Type} {D:α→Option β}:∀ {l:List α} {r:List β},allM D l=some r→r.length=l.length
 | [],r,h=>by rw [allM] at h;cases h;rfl
 | x::xs,r,h=>by
   rw [allM] at h
   cases hx:D x with
   | none=>simp [hx] at h
   | some y =>
     cases hs:allM D xs with
     | none=>simp [hx,hs] at h
     | some ys=>simp [hx,hs] at h;subst h;simp [allM_len hs]
theorem allM_mem {α β:Type} {D:α→Option β}:∀ {l:List α} {r:List β},allM D l=some r→∀ y∈r,∃ x∈l,D x=some y
 | [],r,h,y,hy=>by rw [allM] at h;cases h;cases hy
 | x::xs,r,h,y,hy=>by
   rw [allM] at h
   cases hx:D x with
   | none=>simp [hx] at h
   | some z =>
     cases hs:allM D xs with
     | none=>simp [hx,hs] at h
     | some ys =>
       simp [hx,hs] at h;subst h
       rcases List.mem_cons.1 hy with rfl | hy
       ·exact ⟨x,by simp,hx⟩
       ·obtain ⟨w,hw,hD⟩:=allM_mem hs y hy
        exact ⟨w,by simp [hw],hD⟩
def oapp {α:Type}:Option (List α)→Option (List α)→Option (List α)
 | some a,some b=>some (a++b)
 | _,_=>none
mutual
noncomputable def Form.mt (bs:List Bind) (lits:List Form):Form→Form→Option (List Hit)
 | .mk k nm n sc kids,f =>
   bif decide (k=1) then
    bif decide (nm=zd0) then some []
    else bif inF lits (.mk k nm n sc kids) then (bif decide (f.kind=1)&&refS bs (.mk k nm n sc kids) f then some [] else none)
    else some [Hit.mk (.mk k nm n sc kids) 0 f []]
   else bif decide (k=2) then (bif same (.mk k nm n sc kids) f then some [] else none)
   else bif decide (f.kind≠3) then none else Form.mts bs lits kids f.kids
noncomputable def Form.mts (bs:List Bind) (lits:List Form):List Form→List Form→Option (List Hit)
 | [],fs=>bif decide (fs.length=0) then some [] else none
 | p::ps,fs =>
   bif zC p then Form.mts bs lits ps fs
   else bif zdu ps then
    bif decide (fs.length+1 < ps.length) then none
    else match allM (fun f=>Form.mt bs lits p f) (fs.take (fs.length+1-ps.length)) with
     | none=>none
     | some rows=>oapp (some (rowH 0 (p.vd lits 0) rows)) (Form.mts bs lits ps (fs.drop (fs.length+1-ps.length)))
   else match fs with
    | []=>none
    | f::fs'=>oapp (Form.mt bs lits p f) (Form.mts bs lits ps fs')
end
theorem Form.mt_eq (bs:List Bind) (lits:List Form) (p f:Form):p.mt bs lits f=bif decide (p.kind=1) then
  bif decide (p.name=zd0) then some []
  else bif inF lits p then (bif decide (f.kind=1)&&refS bs p f then some [] else none)
  else some [Hit.mk p 0 f []]
  else bif decide (p.kind=2) then (bif same p f then some [] else none)
  else bif decide (f.kind≠3) then none else Form.mts bs lits p.kids f.kids:=by
 obtain ⟨a,b,c,d,e⟩:=p;rw [Form.mt];rfl
structure PatS (p:Form):Prop where
 ok:∃ d,p.isOk d=true
 shp:p.shp=true
def KidS (x:Form):Prop:=(∃ d,x.isOk d=true)∧(zC x=true∨x.shp=true)
theorem zfL {f:Form} {d:Nat} (h:f.isOk d=true):(f.kind≠3→f.kids=[])∧∀ x∈f.kids,x.isOk (d-1)=true:=by
 rw [Form.isOk_eq] at h
 cases hd:decide (d=0) with
 | true=>rw [hd] at h;cases h
 | false =>
 rw [hd,cond_false] at h
 by_cases h1:f.kind=1
 ·rw [decide_eq_true h1,cond_true] at h
  simp only [Bool.and_eq_true,decide_eq_true_eq] at h
  have:f.kids=[]:=List.eq_nil_of_length_eq_zero (by omega)
  exact ⟨fun _=>this,fun x hx=>by rw [this] at hx;cases hx⟩
 ·rw [decide_eq_false h1,cond_false] at h
  by_cases h2:f.kind=2
  ·rw [decide_eq_true h2,cond_true] at h
   simp only [Bool.and_eq_true,decide_eq_true_eq] at h
   have:f.kids=[]:=List.eq_nil_of_length_eq_zero (by omega)
   exact ⟨fun _=>this,fun x hx=>by rw [this] at hx;cases hx⟩
  ·rw [decide_eq_false h2,cond_false] at h
   simp only [Bool.and_eq_true,decide_eq_true_eq] at h
   obtain ⟨h3,_,_,_,h4⟩:=h
   exact ⟨fun hn=>absurd h3 hn,fun x hx=>zc7.1 h4 x hx⟩
theorem kP_mem:∀ {l:List Form} {pd:Bool},Form.kP pd l=true→∀ x∈l,zC x=true∨x.shp=true
 | y::ys,pd,h,x,hx=>by
   rw [Form.kP,Bool.and_eq_true] at h
   rcases List.mem_cons.1 hx with rfl | hx
   ·cases hd:zC x with
    | true=>exact .inl rfl
    | false=>have:=h.1;rw [hd,cond_false] at this;exact .inr this
   ·exact kP_mem h.2 x hx
theorem PatS.parts {p:Form} (h:PatS p):zC p=false∧Form.kP true p.kids=true∧cntD p.kids≤1∧(∀ x∈p.kids,KidS x)∧(p.kind≠3→p.kids=[]):=by
 obtain ⟨⟨d,hd⟩,hs⟩:=h
 rw [Form.shp_eq,Bool.and_eq_true,Bool.and_eq_true,Bool.not_eq_true',decide_eq_true_eq] at hs
 obtain ⟨k1,k2⟩:=zfL hd
 exact ⟨hs.1,hs.2.1,hs.2.2,fun x hx=>⟨⟨_,k2 x hx⟩,kP_mem hs.2.1 x hx⟩,k1⟩
theorem KidS.pat {x:Form} (h:KidS x) (hd:zC x=false):PatS x:=⟨h.1,by
 rcases h.2 with h | h
 ·rw [hd] at h;cases h
 ·exact h⟩
theorem KidS.dots {x:Form} (h:KidS x) (hd:zC x=true) (lits:List Form):x.vs lits=[]∧zdt lits x=false∧x.kids=[]:=by
 obtain ⟨⟨d,h⟩,_⟩:=h
 unfold zC at hd
 rw [Bool.and_eq_true,decide_eq_true_eq,decide_eq_true_eq] at hd
 have hk:x.kids=[]:=(zfL h).1 (by omega)
 have hv:zdt lits x=false:=by unfold zdt;rw [decide_eq_true hd.1,decide_eq_true hd.2];rfl
 exact ⟨by rw [Form.vs_eq,hk,hv];rfl,hv,hk⟩
theorem oapp_some {α:Type} {a b:Option (List α)} {r:List α} (h:oapp a b=some r):∃ x y,a=some x∧b=some y∧r=x++y:=by
 cases a<;>cases b<;>simp [oapp] at h
 exact ⟨_,_,rfl,rfl,h.symm⟩
theorem Form.mts_eq (bs:List Bind) (lits:List Form) (p:Form) (ps fs:List Form):Form.mts bs lits (p::ps) fs=bif zC p then Form.mts bs lits ps fs
  else bif zdu ps then
   bif decide (fs.length+1 < ps.length) then none
   else match allM (fun f=>Form.mt bs lits p f) (fs.take (fs.length+1-ps.length)) with
    | none=>none
    | some rows=>oapp (some (rowH 0 (p.vd lits 0) rows)) (Form.mts bs lits ps (fs.drop (fs.length+1-ps.length)))
  else match fs with
   | []=>none
   | f::fs'=>oapp (Form.mt bs lits p f) (Form.mts bs lits ps fs'):=by
 cases fs<;>rw [Form.mts]
theorem mts_cons {bs:List Bind} {lits:List Form} {p:Form} {ps fs:List Form} {h:List Hit} (hm:Form.mts bs lits (p::ps) fs=some h) :
  (zC p=true∧Form.mts bs lits ps fs=some h) ∨
  (zC p=false∧zdu ps=true∧ps.length≤fs.length+1∧∃ rows h2,allM (fun f=>p.mt bs lits f) (fs.take (fs.length+1-ps.length))=some rows∧Form.mts bs lits ps (fs.drop (fs.length+1-ps.length))=some h2∧h=rowH 0 (p.vd lits 0) rows++h2) ∨
  (zC p=false∧zdu ps=false∧∃ f fs' h1 h2,fs=f::fs'∧p.mt bs lits f=some h1∧Form.mts bs lits ps fs'=some h2∧h=h1++h2):=by
 rw [Form.mts_eq] at hm
 cases hd:zC p with
 | true=>rw [hd,cond_true] at hm;exact .inl ⟨rfl,hm⟩
 | false =>
 rw [hd,cond_false] at hm
 cases hn:zdu ps with
 | true =>
   rw [hn,cond_true] at hm
   by_cases hl:fs.length+1 < ps.length
   ·rw [decide_eq_true hl] at hm;cases hm
   ·rw [decide_eq_false hl,cond_false] at hm
    cases ha:allM (fun f=>p.mt bs lits f) (fs.take (fs.length+1-ps.length)) with
    | none=>rw [ha] at hm;cases hm
    | some rows =>
      rw [ha] at hm
      obtain ⟨x,y,hx,hy,hr⟩:=oapp_some hm
      cases hx
      exact .inr (.inl ⟨rfl,rfl,by omega,rows,y,rfl,hy,hr⟩)
 | false =>
   rw [hn,cond_false] at hm
   cases fs with
   | nil=>cases hm
   | cons f fs' =>
     obtain ⟨x,y,hx,hy,hr⟩:=oapp_some hm
     exact .inr (.inr ⟨rfl,rfl,f,fs',x,y,rfl,hx,hy,hr⟩)
theorem zht {bs:List Bind} {lits:List Form}:∀ {ps:List Form},(∀ x∈ps,KidS x)→(∀ x∈ps,zC x=false→∀ f h,x.mt bs lits f=some h→h.map Hit.name=x.vs lits)→∀ {fs:List Form} {h:List Hit},Form.mts bs lits ps fs=some h→h.map Hit.name=Form.kVs lits ps
 | [],_,_,fs,h,hm=>by
   rw [Form.mts] at hm
   cases hz:decide (fs.length=0) with
   | true=>rw [hz] at hm;cases hm;rfl
   | false=>rw [hz] at hm;cases hm
 | p::ps,hk,ih,fs,h,hm=>by
   have hk':∀ x∈ps,KidS x:=fun x hx=>hk x (by simp [hx])
   have ih':∀ x∈ps,zC x=false→∀ f h,x.mt bs lits f=some h→h.map Hit.name=x.vs lits:=fun x hx=>ih x (by simp [hx])
   rw [Form.kVs]
   rcases mts_cons hm with ⟨hd,hm2⟩ | ⟨hd,hn,hl,rows,h2,ha,hm2,rfl⟩ | ⟨hd,hn,f,fs',h1,h2,rfl,hf,hm2,rfl⟩
   ·rw [((hk p (by simp)).dots hd lits).1,List.nil_append];exact zht hk' ih' hm2
   ·rw [List.map_append,rowH_name,Form.vd_fst,zht hk' ih' hm2]
   ·rw [List.map_append,ih p (by simp) hd f h1 hf,zht hk' ih' hm2]
theorem mt_names_n (bs:List Bind) (lits:List Form):∀ (n:Nat) (p:Form),p.w≤n→PatS p→∀ f h,p.mt bs lits f=some h→h.map Hit.name=p.vs lits:=by
 intro n
 induction n with
 | zero=>intro p h;have:=p.w_kids;omega
 | succ n ih =>
   intro p hp hs f h hm
   have hw:=p.w_kids
   obtain ⟨q1,q2,q3,q4,q5⟩:=hs.parts
   rw [Form.mt_eq] at hm
   rw [Form.vs_eq]
   by_cases h1:p.kind=1
   ·rw [decide_eq_true h1,cond_true] at hm
    rw [q5 (by omega),Form.kVs,List.append_nil]
    unfold zC at q1
    rw [decide_eq_true h1,Bool.true_and] at q1
    unfold zdt
    rw [decide_eq_true h1,q1,Bool.not_false,Bool.true_and,Bool.true_and]
    cases hu:decide (p.name=zd0) with
    | true=>rw [hu] at hm;cases hm;rfl
    | false =>
    rw [hu,cond_false] at hm
    cases hi:inF lits p with
    | true =>
      rw [hi,cond_true] at hm
      cases hr:(decide (f.kind=1)&&refS bs p f) with
      | true=>rw [hr] at hm;cases hm;rfl
      | false=>rw [hr] at hm;cases hm
    | false=>rw [hi] at hm;cases hm;rfl
   ·rw [decide_eq_false h1,cond_false] at hm
    have hv:zdt lits p=false:=by unfold zdt;rw [decide_eq_false h1];rfl
    rw [hv,cond_false,List.nil_append]
    by_cases h2:p.kind=2
    ·rw [decide_eq_true h2,cond_true] at hm
     rw [q5 (by omega),Form.kVs]
     cases hr:same p f with
     | true=>rw [hr] at hm;cases hm;rfl
     | false=>rw [hr] at hm;cases hm
    ·rw [decide_eq_false h2,cond_false] at hm
     cases hr:decide (f.kind≠3) with
     | true=>rw [hr] at hm;cases hm
     | false =>
       rw [hr,cond_false] at hm
       exact zht q4 (fun x hx hd=>ih x (by have:=Form.ws_mem hx;omega) ((q4 x hx).pat hd)) hm
theorem mt_names {bs:List Bind} {lits:List Form} {p f:Form} {h:List Hit} (hs:PatS p) (hm:p.mt bs lits f=some h):h.map Hit.name=p.vs lits:=mt_names_n bs lits _ p (Nat.le_refl _) hs f h hm
theorem mt_len {bs:List Bind} {lits:List Form} {p f:Form} {h:List Hit} (hs:PatS p) (hm:p.mt bs lits f=some h):h.length=(p.vd lits 0).length:=by
 have h1:=congrArg List.length (mt_names hs hm)
 have h2:=congrArg List.length (Form.vd_fst lits p 0)
 rw [List.length_map] at h1 h2
 omega
def vsum:List Form→Nat
 | []=>0
 | v::vs=>v.w+3+vsum vs
theorem vsum_append:∀ (a b:List Form),vsum (a++b)=vsum a+vsum b
 | [],b=>by rw [List.nil_append,vsum,Nat.zero_add]
 | v::a,b=>by rw [List.cons_append,vsum,vsum,vsum_append a b];omega
theorem vsum_vs (lits:List Form):∀ (n:Nat) (p:Form),p.w≤n→(∃ d,p.isOk d=true)→vsum (p.vs lits)≤4*p.w:=by
 intro n
 induction n with
 | zero=>intro p h;have:=p.w_kids;omega
 | succ n ih =>
   intro p hp hd
   have hw:=p.w_kids
   obtain ⟨d,hd⟩:=hd
   obtain ⟨k1,k2⟩:=zfL hd
   rw [Form.vs_eq]
   cases hv:zdt lits p with
   | true =>
     have h1:p.kind=1:=by
      unfold zdt at hv
      rw [Bool.and_eq_true,decide_eq_true_eq] at hv
      exact hv.1
     rw [k1 (by omega),cond_true,Form.kVs,List.append_nil,vsum,vsum];omega
   | false =>
     rw [cond_false,List.nil_append]
     have key:∀ l:List Form,Form.ws l≤n→(∀ x∈l,∃ d,x.isOk d=true)→vsum (Form.kVs lits l)≤4*Form.ws l:=by
      intro l
      induction l with
      | nil=>intro _ _;rw [Form.kVs,vsum];omega
      | cons x xs ihl =>
        intro hl hx
        rw [Form.ws] at hl ⊢
        rw [Form.kVs,vsum_append]
        have:=ih x (by omega) (hx x (by simp))
        have:=ihl (by omega) (fun y hy=>hx y (by simp [hy]))
        omega
     have:=key p.kids (by omega) (fun x hx=>⟨_,k2 x hx⟩)
     omega
def rsum (k:Nat):List (List Hit)→Nat
 | []=>0
 | r::rs=>Hit.ws (r.drop k)+rsum k rs
theorem rowH_w:∀ (vs:List (Form × Int)) (k:Nat) (rows:List (List Hit)),(∀ r∈rows,r.length=k+vs.length)→Hit.ws (rowH k vs rows)≤vsum (vs.map (·.1))+rsum k rows
 | [],k,rows,_=>by rw [rowH,Hit.ws];omega
 | v::vs,k,rows,h=>by
   have ih:=rowH_w vs (k+1) rows (fun r hr=>by have:=h r hr;rw [List.length_cons] at this;omega)
   have key:∀ rs:List (List Hit),(∀ r∈rs,k < r.length)→Hit.ws (rs.map fun r=>r.getD k hit0)+rsum (k+1) rs=rsum k rs:=by
    intro rs
    induction rs with
    | nil=>intro _;rfl
    | cons r rs ihr =>
      intro hr
      have:=ihr (fun r hr'=>hr r (by simp [hr']))
      have hk:=hr r (by simp)
      rw [List.map_cons,Hit.ws,rsum,rsum,List.drop_eq_getElem_cons hk,Hit.ws,List.getD_eq_getElem?_getD,List.getElem?_eq_getElem hk,Option.getD_some]
      omega
   have:=key rows (fun r hr=>by have:=h r hr;rw [List.length_cons] at this;omega)
   have f0:zcr.w=1:=rfl
   rw [rowH,List.map_cons,vsum,Hit.ws,Hit.w]
   omega
theorem rows_w {bs:List Bind} {lits:List Form} {p:Form} (hp:∀ f h,p.mt bs lits f=some h→Hit.ws h≤4*(p.w*f.w)):∀ {fs:List Form} {rows:List (List Hit)},allM (fun f=>p.mt bs lits f) fs=some rows→rsum 0 rows≤4*(p.w*Form.ws fs)
 | [],rows,h=>by rw [allM] at h;cases h;rw [rsum];omega
 | f::fs,rows,h=>by
   rw [allM] at h
   cases hf:p.mt bs lits f with
   | none=>simp [hf] at h
   | some r =>
     cases hs:allM (fun f=>p.mt bs lits f) fs with
     | none=>simp [hf,hs] at h
     | some rs =>
       simp [hf,hs] at h;subst h
       have h1:=hp f r hf
       have h2:=rows_w hp hs
       rw [rsum,List.drop_zero,Form.ws]
       have e:p.w*(1+f.w+Form.ws fs)=p.w+p.w*f.w+p.w*Form.ws fs:=by rw [Nat.mul_add,Nat.mul_add,Nat.mul_one]
       omega
theorem ws_take_drop (l:List Form) (n:Nat):Form.ws (l.take n)+Form.ws (l.drop n)=Form.ws l:=by
 rw [← Form.ws_append,List.take_append_drop]
theorem prod_row (P A W B:Nat):4*P+4*(P*W)+4*(A*(1+B))≤4*((1+P+A)*(1+(W+B))):=by
 have e:(1+P+A)*(1+(W+B))=1+W+B+(P+P*W+P*B)+(A+A*W+A*B):=by
  rw [Nat.add_mul,Nat.add_mul,Nat.mul_add P,Nat.mul_add A,Nat.mul_add P,Nat.mul_add A,Nat.mul_one,Nat.mul_one,Nat.one_mul];omega
 have e2:A*(1+B)=A+A*B:=by rw [Nat.mul_add,Nat.mul_one]
 omega
theorem prod_one (P A F B:Nat):4*(P*F)+4*(A*(1+B))≤4*((1+P+A)*(1+(1+F+B))):=by
 have e:(1+P+A)*(1+(1+F+B))=1+(1+F+B)+(P+(P+P*F+P*B))+(A+(A+A*F+A*B)):=by
  rw [Nat.add_mul,Nat.add_mul,Nat.one_mul,Nat.mul_add P 1,Nat.mul_add A 1,Nat.mul_add P,Nat.mul_add P,Nat.mul_add A,Nat.mul_add A,Nat.mul_one,Nat.mul_one]
 have e2:A*(1+B)=A+A*B:=by rw [Nat.mul_add,Nat.mul_one]
 omega
theorem Hit.ws_append:∀ (a b:List Hit),Hit.ws (a++b)=Hit.ws a+Hit.ws b
 | [],b=>by rw [List.nil_append,Hit.ws,Nat.zero_add]
 | x::a,b=>by rw [List.cons_append,Hit.ws,Hit.ws,Hit.ws_append a b];omega
theorem mts_w_of {bs:List Bind} {lits:List Form}:∀ {ps:List Form},(∀ x∈ps,KidS x)→(∀ x∈ps,zC x=false→∀ f h,x.mt bs lits f=some h→Hit.ws h≤4*(x.w*f.w))→∀ {fs:List Form} {h:List Hit},Form.mts bs lits ps fs=some h→Hit.ws h≤4*(Form.ws ps*(1+Form.ws fs))
 | [],_,_,fs,h,hm=>by
   rw [Form.mts] at hm
   cases hz:decide (fs.length=0) with
   | true=>rw [hz] at hm;cases hm;rw [Hit.ws];omega
   | false=>rw [hz] at hm;cases hm
 | p::ps,hk,ih,fs,h,hm=>by
   have hk':∀ x∈ps,KidS x:=fun x hx=>hk x (by simp [hx])
   have ih':∀ x∈ps,zC x=false→∀ f h,x.mt bs lits f=some h→Hit.ws h≤4*(x.w*f.w):=fun x hx=>ih x (by simp [hx])
   rw [Form.ws]
   rcases mts_cons hm with ⟨hd,hm2⟩ | ⟨hd,hn,hl,rows,h2,ha,hm2,rfl⟩ | ⟨hd,hn,f,fs',h1,h2,rfl,hf,hm2,rfl⟩
   ·refine Nat.le_trans (mts_w_of hk' ih' hm2) (Nat.mul_le_mul_left 4 (Nat.mul_le_mul_right _ (by omega)))
   ·have r1:=mts_w_of hk' ih' hm2
    have r2:=rows_w (ih p (by simp) hd) ha
    have r3:=rowH_w (p.vd lits 0) 0 rows (fun r hr=>by
     obtain ⟨x,_,hx⟩:=allM_mem ha r hr
     rw [Nat.zero_add]
     exact mt_len ((hk p (by simp)).pat hd) hx)
    rw [Form.vd_fst] at r3
    have r4:=vsum_vs lits _ p (Nat.le_refl _) (hk p (by simp)).1
    rw [Hit.ws_append,← ws_take_drop fs (fs.length+1-ps.length)]
    have:=prod_row p.w (Form.ws ps) (Form.ws (fs.take (fs.length+1-ps.length))) (Form.ws (fs.drop (fs.length+1-ps.length)))
    omega
   ·have r1:=mts_w_of hk' ih' hm2
    have r2:=ih p (by simp) hd f h1 hf
    have:=prod_one p.w (Form.ws ps) f.w (Form.ws fs')
    rw [Hit.ws_append,Form.ws]
    omega
theorem mt_w_n (bs:List Bind) (lits:List Form):∀ (n:Nat) (p:Form),p.w≤n→PatS p→∀ f h,p.mt bs lits f=some h→Hit.ws h≤4*(p.w*f.w):=by
 intro n
 induction n with
 | zero=>intro p h;have:=p.w_kids;omega
 | succ n ih =>
   intro p hp hs f h hm
   have hw:=p.w_kids
   have hfw:=f.w_kids
   obtain ⟨q1,q2,q3,q4,q5⟩:=hs.parts
   rw [Form.mt_eq] at hm
   by_cases h1:p.kind=1
   ·rw [decide_eq_true h1,cond_true] at hm
    cases hu:decide (p.name=zd0) with
    | true=>rw [hu] at hm;cases hm;rw [Hit.ws];omega
    | false =>
    rw [hu,cond_false] at hm
    cases hi:inF lits p with
    | true =>
      rw [hi,cond_true] at hm
      cases hr:(decide (f.kind=1)&&refS bs p f) with
      | true=>rw [hr] at hm;cases hm;rw [Hit.ws];omega
      | false=>rw [hr] at hm;cases hm
    | false =>
      rw [hi] at hm;cases hm
      simp only [Hit.ws,Hit.w]
      have e1:p.w≤p.w*f.w:=Nat.le_mul_of_pos_right _ (by omega)
      have e2:f.w≤p.w*f.w:=Nat.le_mul_of_pos_left _ (by omega)
      omega
   ·rw [decide_eq_false h1,cond_false] at hm
    by_cases h2:p.kind=2
    ·rw [decide_eq_true h2,cond_true] at hm
     cases hr:same p f with
     | true=>rw [hr] at hm;cases hm;rw [Hit.ws];omega
     | false=>rw [hr] at hm;cases hm
    ·rw [decide_eq_false h2,cond_false] at hm
     cases hr:decide (f.kind≠3) with
     | true=>rw [hr] at hm;cases hm
     | false =>
       rw [hr,cond_false] at hm
       have:=mts_w_of q4 (fun x hx hd=>ih x (by have:=Form.ws_mem hx;omega) ((q4 x hx).pat hd)) hm
       exact Nat.le_trans this (Nat.mul_le_mul_left 4 (Nat.mul_le_mul (by omega) (by omega)))
theorem mt_w {bs:List Bind} {lits:List Form} {p f:Form} {h:List Hit} (hs:PatS p) (hm:p.mt bs lits f=some h):Hit.ws h≤4*(p.w*f.w):=mt_w_n bs lits _ p (Nat.le_refl _) hs f h hm
theorem Hit.fits_app:∀ {a b:List Hit},Hit.fits a→Hit.fits b→Hit.fits (a++b)
 | [],b,_,hb=>hb
 | x::a,b,ha,hb=>by rw [Hit.fits] at ha;rw [List.cons_append,Hit.fits];exact ⟨ha.1,Hit.fits_app ha.2 hb⟩
theorem Hit.fits_of_mem:∀ {l:List Hit},(∀ x∈l,x.fit)→Hit.fits l
 | [],_=>by rw [Hit.fits];trivial
 | x::l,h=>by rw [Hit.fits];exact ⟨h x (by simp),Hit.fits_of_mem (fun y hy=>h y (by simp [hy]))⟩
theorem Form.fits_of_mem:∀ {l:List Form},(∀ x∈l,x.fit)→Form.fits l
 | [],_=>by rw [Form.fits];trivial
 | x::l,h=>by rw [Form.fits];exact ⟨h x (by simp),Form.fits_of_mem (fun y hy=>h y (by simp [hy]))⟩
theorem form0_fit:zcr.fit:=by rw [Form.fit,Form.fits];decide
theorem hit0_fit:hit0.fit:=by rw [hit0,Hit.fit,Hit.fits];exact ⟨form0_fit,form0_fit,by decide,trivial⟩
theorem Form.vs_fit (lits:List Form):∀ (n:Nat) (p:Form),p.w≤n→p.fit→∀ x∈p.vs lits,x.fit:=by
 intro n
 induction n with
 | zero=>intro p h;have:=p.w_kids;omega
 | succ n ih =>
   intro p hp hf x hx
   have hw:=p.w_kids
   have hk:=hf.parts.2.2.2
   rw [Form.vs_eq] at hx
   rcases List.mem_append.1 hx with hx | hx
   ·cases hv:zdt lits p with
    | true=>rw [hv,cond_true,List.mem_singleton] at hx;subst hx;exact hf
    | false=>rw [hv] at hx;cases hx
   ·have key:∀ l:List Form,Form.ws l≤n→Form.fits l→x∈Form.kVs lits l→x.fit:=by
     intro l
     induction l with
     | nil=>intro _ _ hx;rw [Form.kVs] at hx;cases hx
     | cons y ys ihl =>
       intro hl hfl hx
       rw [Form.ws] at hl
       rw [Form.fits] at hfl
       rw [Form.kVs] at hx
       rcases List.mem_append.1 hx with hx | hx
       ·exact ih y (by omega) hfl.1 x hx
       ·exact ihl (by omega) hfl.2 hx
    exact key p.kids (by omega) hk hx
theorem rowH_fit:∀ {vs:List (Form × Int)} {k:Nat} {rows:List (List Hit)},(∀ v∈vs,v.1.fit)→(∀ r∈rows,Hit.fits r)→rows.length≤9223372036854775807→Hit.fits (rowH k vs rows)
 | [],k,rows,_,_,_=>by rw [rowH,Hit.fits];trivial
 | v::vs,k,rows,hv,hr,hl=>by
   rw [rowH,Hit.fits,Hit.fit]
   refine ⟨⟨hv v (by simp),form0_fit,by rw [List.length_map];exact hl,Hit.fits_of_mem fun x hx=>?_⟩,rowH_fit (fun w hw=>hv w (by simp [hw])) hr hl⟩
   obtain ⟨r,hrm,rfl⟩:=List.mem_map.1 hx
   rw [List.getD_eq_getElem?_getD]
   cases hk:r[k]? with
   | none=>exact hit0_fit
   | some y=>exact Hit.fits_mem (hr r hrm) (List.mem_of_getElem? hk)
theorem mts_fit_of {bs:List Bind} {lits:List Form}:∀ {ps:List Form},(∀ x∈ps,∀ f h,f.fit→x.mt bs lits f=some h→Hit.fits h)→Form.fits ps→∀ {fs:List Form} {h:List Hit},fs.length≤9223372036854775807→Form.fits fs→Form.mts bs lits ps fs=some h→Hit.fits h
 | [],_,_,fs,h,_,_,hm=>by
   rw [Form.mts] at hm
   cases hz:decide (fs.length=0) with
   | true=>rw [hz] at hm;cases hm;rw [Hit.fits];trivial
   | false=>rw [hz] at hm;cases hm
 | p::ps,ih,hp,fs,h,hl,hf,hm=>by
   have ih':∀ x∈ps,∀ f h,f.fit→x.mt bs lits f=some h→Hit.fits h:=fun x hx=>ih x (by simp [hx])
   rw [Form.fits] at hp
   rcases mts_cons hm with ⟨hd,hm2⟩ | ⟨hd,hn,hl2,rows,h2,ha,hm2,rfl⟩ | ⟨hd,hn,f,fs',h1,h2,rfl,hf1,hm2,rfl⟩
   ·exact mts_fit_of ih' hp.2 hl hf hm2
   ·refine Hit.fits_app (rowH_fit (fun v hv=>?_) (fun r hr=>?_) ?_) (mts_fit_of ih' hp.2 (by rw [List.length_drop];omega) (Form.fits_of_mem fun x hx=>Form.fits_mem hf (List.mem_of_mem_drop hx)) hm2)
    ·have:v.1∈p.vs lits:=by rw [← Form.vd_fst lits p 0];exact List.mem_map_of_mem hv
     exact Form.vs_fit lits _ p (Nat.le_refl _) hp.1 _ this
    ·obtain ⟨x,hx,hD⟩:=allM_mem ha r hr
     exact ih p (by simp) x r (Form.fits_mem hf (List.mem_of_mem_take hx)) hD
    ·rw [allM_len ha,List.length_take];omega
   ·rw [Form.fits] at hf
    exact Hit.fits_app (ih p (by simp) f h1 hf.1 hf1) (mts_fit_of ih' hp.2 (by rw [List.length_cons] at hl;omega) hf.2 hm2)
theorem mt_fit_n (bs:List Bind) (lits:List Form):∀ (n:Nat) (p:Form),p.w≤n→p.fit→∀ f h,f.fit→p.mt bs lits f=some h→Hit.fits h:=by
 intro n
 induction n with
 | zero=>intro p h;have:=p.w_kids;omega
 | succ n ih =>
   intro p hp hpf f h hf hm
   have hw:=p.w_kids
   have nil:Hit.fits []:=by rw [Hit.fits];trivial
   rw [Form.mt_eq] at hm
   by_cases h1:p.kind=1
   ·rw [decide_eq_true h1,cond_true] at hm
    cases hu:decide (p.name=zd0) with
    | true=>rw [hu] at hm;cases hm;exact nil
    | false =>
    rw [hu,cond_false] at hm
    cases hi:inF lits p with
    | true =>
      rw [hi,cond_true] at hm
      cases hr:(decide (f.kind=1)&&refS bs p f) with
      | true=>rw [hr] at hm;cases hm;exact nil
      | false=>rw [hr] at hm;cases hm
    | false =>
      rw [hi] at hm;cases hm
      rw [Hit.fits,Hit.fit,Hit.fits];exact ⟨⟨hpf,hf,by decide,trivial⟩,nil⟩
   ·rw [decide_eq_false h1,cond_false] at hm
    by_cases h2:p.kind=2
    ·rw [decide_eq_true h2,cond_true] at hm
     cases hr:same p f with
     | true=>rw [hr] at hm;cases hm;exact nil
     | false=>rw [hr] at hm;cases hm
    ·rw [decide_eq_false h2,cond_false] at hm
     cases hr:decide (f.kind≠3) with
     | true=>rw [hr] at hm;cases hm
     | false =>
       rw [hr,cond_false] at hm
       exact mts_fit_of (fun x hx=>ih x (by have:=Form.ws_mem hx;omega) (Form.fits_mem hpf.parts.2.2.2 hx)) hpf.parts.2.2.2 hf.parts.2.2.1 hf.parts.2.2.2 hm
theorem mt_fit {bs:List Bind} {lits:List Form} {p f:Form} {h:List Hit} (hp:p.fit) (hf:f.fit) (hm:p.mt bs lits f=some h):Hit.fits h:=mt_fit_n bs lits _ p (Nat.le_refl _) hp f h hf hm
end Go.Abs
end
section
set_option linter.unusedVariables false
set_option linter.unusedSimpArgs false
namespace Go.Abs
mutual
theorem Form.vd_hi (lits:List Form):∀ (f:Form) (v:Nat),∀ x∈f.vd lits v,x.2≤(v:Int)+f.w
 | .mk k nm n sc kids,v,x,hx=>by
   rw [Form.vd,List.mem_append] at hx
   rw [Form.w]
   rcases hx with hx | hx
   ·cases h:zdt lits (.mk k nm n sc kids) with
    | true=>rw [h,cond_true,List.mem_singleton] at hx;subst hx;simp only;omega
    | false=>rw [h,cond_false] at hx;cases hx
   ·have:=Form.kV_hi lits kids v x hx
    omega
theorem Form.kV_hi (lits:List Form):∀ (l:List Form) (v:Nat),∀ x∈Form.kV lits v l,x.2≤(v:Int)+Form.ws l
 | [],v,x,hx=>by rw [Form.kV] at hx;cases hx
 | y::ys,v,x,hx=>by
   rw [Form.kV,List.mem_append] at hx
   rw [Form.ws]
   rcases hx with hx | hx
   ·cases h:zdu ys with
    | true=>rw [h,cond_true] at hx;have:=Form.vd_hi lits y (v+1) x hx;omega
    | false=>rw [h,cond_false] at hx;have:=Form.vd_hi lits y v x hx;omega
   ·have:=Form.kV_hi lits ys v x hx;omega
end
def lastRow:List Form→Nat→Int→Int
 | [],_,r=>r
 | _::xs,k,r=>lastRow xs (k+1) (bif zdu xs then (k:Int) else r)
theorem lastRow_none:∀ (zs:List Form) (k:Nat) (r:Int),cntD zs=0→zdu zs=false∧lastRow zs k r=r
 | [],k,r,_=>⟨rfl,rfl⟩
 | z::zs,k,r,h=>by
   rw [cntD] at h
   have h1:zC z=false:=by
    cases hz:zC z with
    | true=>rw [hz,cond_true] at h;omega
    | false=>rfl
   obtain ⟨n1,_⟩:=lastRow_none zs k r (by omega)
   obtain ⟨_,n2⟩:=lastRow_none zs (k+1) r (by omega)
   exact ⟨h1,by rw [lastRow,n1,cond_false,n2]⟩
theorem mts_len {bs:List Bind} {lits:List Form}:∀ {ps fs:List Form} {h:List Hit},Form.mts bs lits ps fs=some h→(cntD ps=0→ps.length=fs.length)∧(cntD ps=1→zdu ps=true→ps.length=fs.length+1)∧(cntD ps=1→zdu ps=false→ps.length≤fs.length+2)
 | [],fs,h,hm=>by
   rw [Form.mts] at hm
   cases hz:decide (fs.length=0) with
   | true=>exact ⟨fun _=>by simpa using (of_decide_eq_true hz).symm,fun h=>by simp [cntD] at h,fun h=>by simp [cntD] at h⟩
   | false=>rw [hz] at hm;cases hm
 | p::ps,fs,h,hm=>by
   rw [cntD]
   rcases mts_cons hm with ⟨hd,hm2⟩ | ⟨hd,hn,hl,rows,h2,ha,hm2,rfl⟩ | ⟨hd,hn,f,fs',h1,h2,rfl,hf,hm2,rfl⟩
   ·obtain ⟨a,b,c⟩:=mts_len hm2
    rw [hd,cond_true]
    refine ⟨fun h=>by omega,fun h _=>?_,fun h hn=>?_⟩
    ·have:=a (by omega);rw [List.length_cons];omega
    ·have:=a (by omega);rw [List.length_cons];omega
   ·obtain ⟨a,b,c⟩:=mts_len hm2
    rw [hd,cond_false,Nat.zero_add]
    refine ⟨fun h=>?_,fun _ h=>?_,fun h _=>?_⟩
    ·rw [(lastRow_none ps 0 0 h).1] at hn;cases hn
    ·rw [show zdu (p::ps)=zC p from rfl,hd] at h;cases h
    ·rw [List.length_cons];omega
   ·obtain ⟨a,b,c⟩:=mts_len hm2
    rw [hd,cond_false,Nat.zero_add]
    refine ⟨fun h=>?_,fun _ h=>?_,fun h _=>?_⟩
    ·have:=a h;simp only [List.length_cons];omega
    ·rw [show zdu (p::ps)=zC p from rfl,hd] at h;cases h
    ·have:=c h hn;simp only [List.length_cons];omega
def MR (o:Option (List Hit)) (out:List Hit) (r:List Hit × Bool):Prop:=r.2=o.isSome∧∀ h,o=some h→r.1=out++h
theorem MR.none {out:List Hit} {x:List Hit}:MR none out (x,false):=⟨rfl,fun h hh=>by cases hh⟩
end Go.Abs
end
section
set_option linter.unusedVariables false
set_option linter.unusedSimpArgs false
namespace Go.Abs
def bindOk (b:Bind):Bool:=nmOk b.name&&(scOk b.scopes&&(decide (1≤b.id)&&decide (b.id≤999)))
noncomputable def bvF:List Bind→List Bind→Bool
 | _,[]=>true
 | ps,b::bs=>(bindOk b&&!anys (fun c=>decide (c.name=b.name)&&same c.scopes b.scopes) ps)&&bvF (ps++[b]) bs
noncomputable def bvOk (l:List Bind):Bool:=bvF [] l&&decide ((l.length:Int)≤60)
def Bind.fit (b:Bind):Prop:=b.name.size≤9223372036854775807∧b.scopes.length≤9223372036854775807
theorem patOk_S {p:Form} {lits:List Form} (h:patOk p lits=true):PatS p:=by
 unfold patOk Form.valid at h
 simp only [Bool.and_eq_true] at h
 exact ⟨⟨40,h.1.1⟩,h.2.2.1⟩
theorem Hit.ws_set:∀ (l:List Hit) (i:Nat) (x:Hit) (B:Nat),(∀ y,l[i]?=some y→x.w≤y.w+B)→Hit.ws (l.set i x)≤Hit.ws l+B
 | [],i,x,B,_=>by simp [Hit.ws]
 | y::l,0,x,B,h=>by
   have:=h y rfl
   rw [List.set_cons_zero,Hit.ws,Hit.ws];omega
 | y::l,i+1,x,B,h=>by
   have:=Hit.ws_set l i x B (fun z hz=>h z (by simpa using hz))
   rw [List.set_cons_succ,Hit.ws,Hit.ws];omega
theorem Hit.fits_set:∀ (l:List Hit) (i:Nat) (x:Hit),Hit.fits l→x.fit→Hit.fits (l.set i x)
 | [],i,x,h,_=>by simpa using h
 | y::l,0,x,h,hx=>by
   rw [Hit.fits] at h;rw [List.set_cons_zero,Hit.fits];exact ⟨hx,h.2⟩
 | y::l,i+1,x,h,hx=>by
   rw [Hit.fits] at h;rw [List.set_cons_succ,Hit.fits];exact ⟨h.1,Hit.fits_set l i x h.2 hx⟩
end Go.Abs
end
section
set_option linter.unusedVariables false
set_option maxRecDepth 100000
namespace Go.Abs
def t5F0:Form:=(Form.mk 3 (⟨#[]⟩:ByteArray) 0 ([]:List Int) [(Form.mk 1 (⟨#[114,117,108,101,115]⟩:ByteArray) 0 ([]:List Int) ([]:List Form)),(Form.mk 3 (⟨#[]⟩:ByteArray) 0 ([]:List Int) ([]:List Form)),(Form.mk 3 (⟨#[]⟩:ByteArray) 0 ([]:List Int) [(Form.mk 3 (⟨#[]⟩:ByteArray) 0 ([]:List Int) [(Form.mk 1 (⟨#[95]⟩:ByteArray) 0 ([]:List Int) ([]:List Form)),(Form.mk 1 (⟨#[97]⟩:ByteArray) 0 ([]:List Int) ([]:List Form)),(Form.mk 1 (⟨#[98]⟩:ByteArray) 0 ([]:List Int) ([]:List Form))]),(Form.mk 3 (⟨#[]⟩:ByteArray) 0 ([]:List Int) [(Form.mk 1 (⟨#[108,101,116]⟩:ByteArray) 0 ([]:List Int) ([]:List Form)),(Form.mk 3 (⟨#[]⟩:ByteArray) 0 ([]:List Int) [(Form.mk 3 (⟨#[]⟩:ByteArray) 0 ([]:List Int) [(Form.mk 1 (⟨#[116,109,112]⟩:ByteArray) 0 ([]:List Int) ([]:List Form)),(Form.mk 1 (⟨#[97]⟩:ByteArray) 0 ([]:List Int) ([]:List Form))])]),(Form.mk 3 (⟨#[]⟩:ByteArray) 0 ([]:List Int) [(Form.mk 1 (⟨#[108,105,115,116]⟩:ByteArray) 0 ([]:List Int) ([]:List Form)),(Form.mk 1 (⟨#[98]⟩:ByteArray) 0 ([]:List Int) ([]:List Form)),(Form.mk 1 (⟨#[116,109,112]⟩:ByteArray) 0 ([]:List Int) ([]:List Form))])])])])
theorem t5P0:ze0 (⟨#[40,114,117,108,101,115,32,40,41,32,40,40,95,32,97,32,98,41,32,40,108,101,116,32,40,40,116,109,112,32,97,41,41,32,40,108,105,115,116,32,98,32,116,109,112,41,41,41,41]⟩:ByteArray) t5F0:=⟨Tr.add 100 (fun m=>by kernel_rfl),of_decide_eq_true (by kernel_rfl),Form.fitB_fit (by kernel_rfl)⟩
def t5F1:Form:=(Form.mk 3 (⟨#[]⟩:ByteArray) 0 ([]:List Int) [(Form.mk 1 (⟨#[115,119,97,112]⟩:ByteArray) 0 ([]:List Int) ([]:List Form)),(Form.mk 1 (⟨#[120]⟩:ByteArray) 0 ([]:List Int) ([]:List Form)),(Form.mk 1 (⟨#[121]⟩:ByteArray) 0 ([]:List Int) ([]:List Form))])
theorem t5P1:ze0 (⟨#[40,115,119,97,112,32,120,32,121,41]⟩:ByteArray) t5F1:=⟨Tr.add 100 (fun m=>by kernel_rfl),of_decide_eq_true (by kernel_rfl),Form.fitB_fit (by kernel_rfl)⟩
def t5F2:Form:=(Form.mk 3 (⟨#[]⟩:ByteArray) 0 ([]:List Int) [(Form.mk 1 (⟨#[114,117,108,101,115]⟩:ByteArray) 0 ([]:List Int) ([]:List Form)),(Form.mk 3 (⟨#[]⟩:ByteArray) 0 ([]:List Int) ([]:List Form)),(Form.mk 3 (⟨#[]⟩:ByteArray) 0 ([]:List Int) [(Form.mk 3 (⟨#[]⟩:ByteArray) 0 ([]:List Int) [(Form.mk 1 (⟨#[95]⟩:ByteArray) 0 ([]:List Int) ([]:List Form))]),(Form.mk 2 (⟨#[]⟩:ByteArray) 0 ([]:List Int) ([]:List Form))]),(Form.mk 3 (⟨#[]⟩:ByteArray) 0 ([]:List Int) [(Form.mk 3 (⟨#[]⟩:ByteArray) 0 ([]:List Int) [(Form.mk 1 (⟨#[95]⟩:ByteArray) 0 ([]:List Int) ([]:List Form)),(Form.mk 1 (⟨#[97]⟩:ByteArray) 0 ([]:List Int) ([]:List Form))]),(Form.mk 1 (⟨#[97]⟩:ByteArray) 0 ([]:List Int) ([]:List Form))]),(Form.mk 3 (⟨#[]⟩:ByteArray) 0 ([]:List Int) [(Form.mk 3 (⟨#[]⟩:ByteArray) 0 ([]:List Int) [(Form.mk 1 (⟨#[95]⟩:ByteArray) 0 ([]:List Int) ([]:List Form)),(Form.mk 1 (⟨#[97]⟩:ByteArray) 0 ([]:List Int) ([]:List Form)),(Form.mk 1 (⟨#[98]⟩:ByteArray) 0 ([]:List Int) ([]:List Form)),(Form.mk 1 (⟨#[46,46,46]⟩:ByteArray) 0 ([]:List Int) ([]:List Form))]),(Form.mk 3 (⟨#[]⟩:ByteArray) 0 ([]:List Int) [(Form.mk 1 (⟨#[105,102]⟩:ByteArray) 0 ([]:List Int) ([]:List Form)),(Form.mk 1 (⟨#[97]⟩:ByteArray) 0 ([]:List Int) ([]:List Form)),(Form.mk 2 (⟨#[]⟩:ByteArray) 1 ([]:List Int) ([]:List Form)),(Form.mk 3 (⟨#[]⟩:ByteArray) 0 ([]:List Int) [(Form.mk 1 (⟨#[111,114]⟩:ByteArray) 0 ([]:List Int) ([]:List Form)),(Form.mk 1 (⟨#[98]⟩:ByteArray) 0 ([]:List Int) ([]:List Form)),(Form.mk 1 (⟨#[46,46,46]⟩:ByteArray) 0 ([]:List Int) ([]:List Form))])])])])
theorem t5P2:ze0 (⟨#[40,114,117,108,101,115,32,40,41,32,40,40,95,41,32,48,41,32,40,40,95,32,97,41,32,97,41,32,40,40,95,32,97,32,98,32,46,46,46,41,32,40,105,102,32,97,32,49,32,40,111,114,32,98,32,46,46,46,41,41,41,41]⟩:ByteArray) t5F2:=⟨Tr.add 100 (fun m=>by kernel_rfl),of_decide_eq_true (by kernel_rfl),Form.fitB_fit (by kernel_rfl)⟩
def t5F3:Form:=(Form.mk 3 (⟨#[]⟩:ByteArray) 0 ([]:List Int) [(Form.mk 1 (⟨#[111,114]⟩:ByteArray) 0 ([]:List Int) ([]:List Form)),(Form.mk 1 (⟨#[120]⟩:ByteArray) 0 ([]:List Int) ([]:List Form)),(Form.mk 1 (⟨#[121]⟩:ByteArray) 0 ([]:List Int) ([]:List Form)),(Form.mk 1 (⟨#[122]⟩:ByteArray) 0 ([]:List Int) ([]:List Form))])
theorem t5P3:ze0 (⟨#[40,111,114,32,120,32,121,32,122,41]⟩:ByteArray) t5F3:=⟨Tr.add 100 (fun m=>by kernel_rfl),of_decide_eq_true (by kernel_rfl),Form.fitB_fit (by kernel_rfl)⟩
def t5F4:Form:=(Form.mk 3 (⟨#[]⟩:ByteArray) 0 ([]:List Int) [(Form.mk 1 (⟨#[114,117,108,101,115]⟩:ByteArray) 0 ([]:List Int) ([]:List Form)),(Form.mk 3 (⟨#[]⟩:ByteArray) 0 ([]:List Int) ([]:List Form)),(Form.mk 3 (⟨#[]⟩:ByteArray) 0 ([]:List Int) [(Form.mk 3 (⟨#[]⟩:ByteArray) 0 ([]:List Int) [(Form.mk 1 (⟨#[95]⟩:ByteArray) 0 ([]:List Int) ([]:List Form)),(Form.mk 3 (⟨#[]⟩:ByteArray) 0 ([]:List Int) [(Form.mk 3 (⟨#[]⟩:ByteArray) 0 ([]:List Int) [(Form.mk 1 (⟨#[120]⟩:ByteArray) 0 ([]:List Int) ([]:List Form)),(Form.mk 1 (⟨#[118]⟩:ByteArray) 0 ([]:List Int) ([]:List Form))]),(Form.mk 1 (⟨#[46,46,46]⟩:ByteArray) 0 ([]:List Int) ([]:List Form))]),(Form.mk 1 (⟨#[98,111,100,121]⟩:ByteArray) 0 ([]:List Int) ([]:List Form))]),(Form.mk 3 (⟨#[]⟩:ByteArray) 0 ([]:List Int) [(Form.mk 3 (⟨#[]⟩:ByteArray) 0 ([]:List Int) [(Form.mk 1 (⟨#[108,97,109,98,100,97]⟩:ByteArray) 0 ([]:List Int) ([]:List Form)),(Form.mk 3 (⟨#[]⟩:ByteArray) 0 ([]:List Int) [(Form.mk 1 (⟨#[120]⟩:ByteArray) 0 ([]:List Int) ([]:List Form)),(Form.mk 1 (⟨#[46,46,46]⟩:ByteArray) 0 ([]:List Int) ([]:List Form))]),(Form.mk 1 (⟨#[98,111,100,121]⟩:ByteArray) 0 ([]:List Int) ([]:List Form))]),(Form.mk 1 (⟨#[118]⟩:ByteArray) 0 ([]:List Int) ([]:List Form)),(Form.mk 1 (⟨#[46,46,46]⟩:ByteArray) 0 ([]:List Int) ([]:List Form))])])])
theorem t5P4:ze0 (⟨#[40,114,117,108,101,115,32,40,41,32,40,40,95,32,40,40,120,32,118,41,32,46,46,46,41,32,98,111,100,121,41,32,40,40,108,97,109,98,100,97,32,40,120,32,46,46,46,41,32,98,111,100,121,41,32,118,32,46,46,46,41,41,41]⟩:ByteArray) t5F4:=⟨Tr.add 100 (fun m=>by kernel_rfl),of_decide_eq_true (by kernel_rfl),Form.fitB_fit (by kernel_rfl)⟩
def t5F5:Form:=(Form.mk 3 (⟨#[]⟩:ByteArray) 0 ([]:List Int) [(Form.mk 1 (⟨#[109,121,108,101,116]⟩:ByteArray) 0 ([]:List Int) ([]:List Form)),(Form.mk 3 (⟨#[]⟩:ByteArray) 0 ([]:List Int) [(Form.mk 3 (⟨#[]⟩:ByteArray) 0 ([]:List Int) [(Form.mk 1 (⟨#[112]⟩:ByteArray) 0 ([]:List Int) ([]:List Form)),(Form.mk 2 (⟨#[]⟩:ByteArray) 1 ([]:List Int) ([]:List Form))]),(Form.mk 3 (⟨#[]⟩:ByteArray) 0 ([]:List Int) [(Form.mk 1 (⟨#[113]⟩:ByteArray) 0 ([]:List Int) ([]:List Form)),(Form.mk 2 (⟨#[]⟩:ByteArray) 2 ([]:List Int) ([]:List Form))])]),(Form.mk 3 (⟨#[]⟩:ByteArray) 0 ([]:List Int) [(Form.mk 1 (⟨#[102]⟩:ByteArray) 0 ([]:List Int) ([]:List Form)),(Form.mk 1 (⟨#[112]⟩:ByteArray) 0 ([]:List Int) ([]:List Form)),(Form.mk 1 (⟨#[113]⟩:ByteArray) 0 ([]:List Int) ([]:List Form))])])
theorem t5P5:ze0 (⟨#[40,109,121,108,101,116,32,40,40,112,32,49,41,32,40,113,32,50,41,41,32,40,102,32,112,32,113,41,41]⟩:ByteArray) t5F5:=⟨Tr.add 100 (fun m=>by kernel_rfl),of_decide_eq_true (by kernel_rfl),Form.fitB_fit (by kernel_rfl)⟩
def t5F6:Form:=(Form.mk 3 (⟨#[]⟩:ByteArray) 0 ([]:List Int) [(Form.mk 1 (⟨#[114,117,108,101,115]⟩:ByteArray) 0 ([]:List Int) ([]:List Form)),(Form.mk 3 (⟨#[]⟩:ByteArray) 0 ([]:List Int) [(Form.mk 1 (⟨#[101,108,115,101]⟩:ByteArray) 0 ([]:List Int) ([]:List Form))]),(Form.mk 3 (⟨#[]⟩:ByteArray) 0 ([]:List Int) [(Form.mk 3 (⟨#[]⟩:ByteArray) 0 ([]:List Int) [(Form.mk 1 (⟨#[95]⟩:ByteArray) 0 ([]:List Int) ([]:List Form)),(Form.mk 1 (⟨#[101,108,115,101]⟩:ByteArray) 0 ([]:List Int) ([]:List Form)),(Form.mk 1 (⟨#[101]⟩:ByteArray) 0 ([]:List Int) ([]:List Form))]),(Form.mk 1 (⟨#[101]⟩:ByteArray) 0 ([]:List Int) ([]:List Form))]),(Form.mk 3 (⟨#[]⟩:ByteArray) 0 ([]:List Int) [(Form.mk 3 (⟨#[]⟩:ByteArray) 0 ([]:List Int) [(Form.mk 1 (⟨#[95]⟩:ByteArray) 0 ([]:List Int) ([]:List Form)),(Form.mk 1 (⟨#[99]⟩:ByteArray) 0 ([]:List Int) ([]:List Form)),(Form.mk 1 (⟨#[101]⟩:ByteArray) 0 ([]:List Int) ([]:List Form)),(Form.mk 1 (⟨#[114]⟩:ByteArray) 0 ([]:List Int) ([]:List Form)),(Form.mk 1 (⟨#[46,46,46]⟩:ByteArray) 0 ([]:List Int) ([]:List Form))]),(Form.mk 3 (⟨#[]⟩:ByteArray) 0 ([]:List Int) [(Form.mk 1 (⟨#[105,102]⟩:ByteArray) 0 ([]:List Int) ([]:List Form)),(Form.mk 1 (⟨#[99]⟩:ByteArray) 0 ([]:List Int) ([]:List Form)),(Form.mk 1 (⟨#[101]⟩:ByteArray) 0 ([]:List Int) ([]:List Form)),(Form.mk 3 (⟨#[]⟩:ByteArray) 0 ([]:List Int) [(Form.mk 1 (⟨#[99,111,110,100]⟩:ByteArray) 0 ([]:List Int) ([]:List Form)),(Form.mk 1 (⟨#[114]⟩:ByteArray) 0 ([]:List Int) ([]:List Form)),(Form.mk 1 (⟨#[46,46,46]⟩:ByteArray) 0 ([]:List Int) ([]:List Form))])])])])
theorem t5P6:ze0 (⟨#[40,114,117,108,101,115,32,40,101,108,115,101,41,32,40,40,95,32,101,108,115,101,32,101,41,32,101,41,32,40,40,95,32,99,32,101,32,114,32,46,46,46,41,32,40,105,102,32,99,32,101,32,40,99,111,110,100,32,114,32,46,46,46,41,41,41,41]⟩:ByteArray) t5F6:=⟨Tr.add 100 (fun m=>by kernel_rfl),of_decide_eq_true (by kernel_rfl),Form.fitB_fit (by kernel_rfl)⟩
def t5F7:Form:=(Form.mk 3 (⟨#[]⟩:ByteArray) 0 ([]:List Int) [(Form.mk 1 (⟨#[99,111,110,100]⟩:ByteArray) 0 ([]:List Int) ([]:List Form)),(Form.mk 1 (⟨#[112]⟩:ByteArray) 0 ([]:List Int) ([]:List Form)),(Form.mk 2 (⟨#[]⟩:ByteArray) 1 ([]:List Int) ([]:List Form)),(Form.mk 1 (⟨#[101,108,115,101]⟩:ByteArray) 0 ([]:List Int) ([]:List Form)),(Form.mk 2 (⟨#[]⟩:ByteArray) 2 ([]:List Int) ([]:List Form))])
theorem t5P7:ze0 (⟨#[40,99,111,110,100,32,112,32,49,32,101,108,115,101,32,50,41]⟩:ByteArray) t5F7:=⟨Tr.add 100 (fun m=>by kernel_rfl),of_decide_eq_true (by kernel_rfl),Form.fitB_fit (by kernel_rfl)⟩
def t5F8:Form:=(Form.mk 3 (⟨#[]⟩:ByteArray) 0 ([]:List Int) [(Form.mk 1 (⟨#[114,117,108,101,115]⟩:ByteArray) 0 ([]:List Int) ([]:List Form)),(Form.mk 3 (⟨#[]⟩:ByteArray) 0 ([]:List Int) ([]:List Form)),(Form.mk 3 (⟨#[]⟩:ByteArray) 0 ([]:List Int) [(Form.mk 3 (⟨#[]⟩:ByteArray) 0 ([]:List Int) [(Form.mk 1 (⟨#[95]⟩:ByteArray) 0 ([]:List Int) ([]:List Form)),(Form.mk 3 (⟨#[]⟩:ByteArray) 0 ([]:List Int) [(Form.mk 1 (⟨#[97]⟩:ByteArray) 0 ([]:List Int) ([]:List Form)),(Form.mk 1 (⟨#[98]⟩:ByteArray) 0 ([]:List Int) ([]:List Form)),(Form.mk 1 (⟨#[46,46,46]⟩:ByteArray) 0 ([]:List Int) ([]:List Form))]),(Form.mk 1 (⟨#[46,46,46]⟩:ByteArray) 0 ([]:List Int) ([]:List Form))]),(Form.mk 3 (⟨#[]⟩:ByteArray) 0 ([]:List Int) [(Form.mk 1 (⟨#[109]⟩:ByteArray) 0 ([]:List Int) ([]:List Form)),(Form.mk 3 (⟨#[]⟩:ByteArray) 0 ([]:List Int) [(Form.mk 1 (⟨#[97]⟩:ByteArray) 0 ([]:List Int) ([]:List Form)),(Form.mk 1 (⟨#[46,46,46]⟩:ByteArray) 0 ([]:List Int) ([]:List Form))]),(Form.mk 3 (⟨#[]⟩:ByteArray) 0 ([]:List Int) [(Form.mk 3 (⟨#[]⟩:ByteArray) 0 ([]:List Int) [(Form.mk 1 (⟨#[97]⟩:ByteArray) 0 ([]:List Int) ([]:List Form)),(Form.mk 1 (⟨#[98]⟩:ByteArray) 0 ([]:List Int) ([]:List Form)),(Form.mk 1 (⟨#[46,46,46]⟩:ByteArray) 0 ([]:List Int) ([]:List Form))]),(Form.mk 1 (⟨#[46,46,46]⟩:ByteArray) 0 ([]:List Int) ([]:List Form))]),(Form.mk 2 (⟨#[]⟩:ByteArray) 1 ([]:List Int) ([]:List Form))])])])
theorem t5P8:ze0 (⟨#[40,114,117,108,101,115,32,40,41,32,40,40,95,32,40,97,32,98,32,46,46,46,41,32,46,46,46,41,32,40,109,32,40,97,32,46,46,46,41,32,40,40,97,32,98,32,46,46,46,41,32,46,46,46,41,32,49,41,41,41]⟩:ByteArray) t5F8:=⟨Tr.add 100 (fun m=>by kernel_rfl),of_decide_eq_true (by kernel_rfl),Form.fitB_fit (by kernel_rfl)⟩
def t5F9:Form:=(Form.mk 3 (⟨#[]⟩:ByteArray) 0 ([]:List Int) [(Form.mk 1 (⟨#[109]⟩:ByteArray) 0 ([]:List Int) ([]:List Form)),(Form.mk 3 (⟨#[]⟩:ByteArray) 0 ([]:List Int) [(Form.mk 1 (⟨#[120]⟩:ByteArray) 0 ([]:List Int) ([]:List Form)),(Form.mk 2 (⟨#[]⟩:ByteArray) 1 ([]:List Int) ([]:List Form)),(Form.mk 2 (⟨#[]⟩:ByteArray) 2 ([]:List Int) ([]:List Form))]),(Form.mk 3 (⟨#[]⟩:ByteArray) 0 ([]:List Int) [(Form.mk 1 (⟨#[121]⟩:ByteArray) 0 ([]:List Int) ([]:List Form))])])
theorem t5P9:ze0 (⟨#[40,109,32,40,120,32,49,32,50,41,32,40,121,41,41]⟩:ByteArray) t5F9:=⟨Tr.add 100 (fun m=>by kernel_rfl),of_decide_eq_true (by kernel_rfl),Form.fitB_fit (by kernel_rfl)⟩
def t5F10:Form:=(Form.mk 3 (⟨#[]⟩:ByteArray) 0 ([]:List Int) [(Form.mk 1 (⟨#[114,117,108,101,115]⟩:ByteArray) 0 ([]:List Int) ([]:List Form)),(Form.mk 3 (⟨#[]⟩:ByteArray) 0 ([]:List Int) ([]:List Form)),(Form.mk 3 (⟨#[]⟩:ByteArray) 0 ([]:List Int) [(Form.mk 3 (⟨#[]⟩:ByteArray) 0 ([]:List Int) [(Form.mk 1 (⟨#[95]⟩:ByteArray) 0 ([]:List Int) ([]:List Form)),(Form.mk 1 (⟨#[97]⟩:ByteArray) 0 ([]:List Int) ([]:List Form)),(Form.mk 1 (⟨#[46,46,46]⟩:ByteArray) 0 ([]:List Int) ([]:List Form))]),(Form.mk 3 (⟨#[]⟩:ByteArray) 0 ([]:List Int) [(Form.mk 1 (⟨#[108,105,115,116]⟩:ByteArray) 0 ([]:List Int) ([]:List Form)),(Form.mk 1 (⟨#[97]⟩:ByteArray) 0 ([]:List Int) ([]:List Form)),(Form.mk 1 (⟨#[46,46,46]⟩:ByteArray) 0 ([]:List Int) ([]:List Form)),(Form.mk 1 (⟨#[97]⟩:ByteArray) 0 ([]:List Int) ([]:List Form)),(Form.mk 1 (⟨#[46,46,46]⟩:ByteArray) 0 ([]:List Int) ([]:List Form))])])])
theorem t5P10:ze0 (⟨#[40,114,117,108,101,115,32,40,41,32,40,40,95,32,97,32,46,46,46,41,32,40,108,105,115,116,32,97,32,46,46,46,32,97,32,46,46,46,41,41,41]⟩:ByteArray) t5F10:=⟨Tr.add 100 (fun m=>by kernel_rfl),of_decide_eq_true (by kernel_rfl),Form.fitB_fit (by kernel_rfl)⟩
def t5F11:Form:=(Form.mk 3 (⟨#[]⟩:ByteArray) 0 ([]:List Int) [(Form.mk 1 (⟨#[116,119,105,99,101]⟩:ByteArray) 0 ([]:List Int) ([]:List Form)),(Form.mk 2 (⟨#[]⟩:ByteArray) 1 ([]:List Int) ([]:List Form)),(Form.mk 2 (⟨#[]⟩:ByteArray) 2 ([]:List Int) ([]:List Form))])
theorem t5P11:ze0 (⟨#[40,116,119,105,99,101,32,49,32,50,41]⟩:ByteArray) t5F11:=⟨Tr.add 100 (fun m=>by kernel_rfl),of_decide_eq_true (by kernel_rfl),Form.fitB_fit (by kernel_rfl)⟩
def t5F12:Form:=(Form.mk 3 (⟨#[]⟩:ByteArray) 0 ([]:List Int) [(Form.mk 1 (⟨#[114,117,108,101,115]⟩:ByteArray) 0 ([]:List Int) ([]:List Form)),(Form.mk 3 (⟨#[]⟩:ByteArray) 0 ([]:List Int) ([]:List Form)),(Form.mk 3 (⟨#[]⟩:ByteArray) 0 ([]:List Int) [(Form.mk 3 (⟨#[]⟩:ByteArray) 0 ([]:List Int) [(Form.mk 1 (⟨#[95]⟩:ByteArray) 0 ([]:List Int) ([]:List Form)),(Form.mk 1 (⟨#[97]⟩:ByteArray) 0 ([]:List Int) ([]:List Form)),(Form.mk 1 (⟨#[46,46,46]⟩:ByteArray) 0 ([]:List Int) ([]:List Form))]),(Form.mk 3 (⟨#[]⟩:ByteArray) 0 ([]:List Int) [(Form.mk 3 (⟨#[]⟩:ByteArray) 0 ([]:List Int) [(Form.mk 1 (⟨#[97]⟩:ByteArray) 0 ([]:List Int) ([]:List Form)),(Form.mk 2 (⟨#[]⟩:ByteArray) 1 ([]:List Int) ([]:List Form))]),(Form.mk 1 (⟨#[46,46,46]⟩:ByteArray) 0 ([]:List Int) ([]:List Form))])]),(Form.mk 3 (⟨#[]⟩:ByteArray) 0 ([]:List Int) [(Form.mk 3 (⟨#[]⟩:ByteArray) 0 ([]:List Int) [(Form.mk 1 (⟨#[95]⟩:ByteArray) 0 ([]:List Int) ([]:List Form)),(Form.mk 1 (⟨#[98]⟩:ByteArray) 0 ([]:List Int) ([]:List Form))]),(Form.mk 1 (⟨#[98]⟩:ByteArray) 0 ([]:List Int) ([]:List Form))])])
theorem t5P12:ze0 (⟨#[40,114,117,108,101,115,32,40,41,32,40,40,95,32,97,32,46,46,46,41,32,40,40,97,32,49,41,32,46,46,46,41,41,32,40,40,95,32,98,41,32,98,41,41]⟩:ByteArray) t5F12:=⟨Tr.add 100 (fun m=>by kernel_rfl),of_decide_eq_true (by kernel_rfl),Form.fitB_fit (by kernel_rfl)⟩
def t5F13:Form:=(Form.mk 3 (⟨#[]⟩:ByteArray) 0 ([]:List Int) [(Form.mk 1 (⟨#[112,97,105,114,115]⟩:ByteArray) 0 ([]:List Int) ([]:List Form)),(Form.mk 1 (⟨#[112]⟩:ByteArray) 0 ([]:List Int) ([]:List Form)),(Form.mk 1 (⟨#[113]⟩:ByteArray) 0 ([]:List Int) ([]:List Form))])
theorem t5P13:ze0 (⟨#[40,112,97,105,114,115,32,112,32,113,41]⟩:ByteArray) t5F13:=⟨Tr.add 100 (fun m=>by kernel_rfl),of_decide_eq_true (by kernel_rfl),Form.fitB_fit (by kernel_rfl)⟩
def t5F14:Form:=(Form.mk 3 (⟨#[]⟩:ByteArray) 0 ([]:List Int) [(Form.mk 1 (⟨#[114,117,108,101,115]⟩:ByteArray) 0 ([]:List Int) ([]:List Form)),(Form.mk 3 (⟨#[]⟩:ByteArray) 0 ([]:List Int) ([]:List Form)),(Form.mk 3 (⟨#[]⟩:ByteArray) 0 ([]:List Int) [(Form.mk 3 (⟨#[]⟩:ByteArray) 0 ([]:List Int) [(Form.mk 1 (⟨#[95]⟩:ByteArray) 0 ([]:List Int) ([]:List Form)),(Form.mk 1 (⟨#[97]⟩:ByteArray) 0 ([]:List Int) ([]:List Form))]),(Form.mk 1 (⟨#[97]⟩:ByteArray) 0 ([]:List Int) ([]:List Form))]),(Form.mk 3 (⟨#[]⟩:ByteArray) 0 ([]:List Int) [(Form.mk 3 (⟨#[]⟩:ByteArray) 0 ([]:List Int) [(Form.mk 1 (⟨#[95]⟩:ByteArray) 0 ([]:List Int) ([]:List Form)),(Form.mk 2 (⟨#[]⟩:ByteArray) 5 ([]:List Int) ([]:List Form))]),(Form.mk 2 (⟨#[]⟩:ByteArray) 6 ([]:List Int) ([]:List Form))]),(Form.mk 3 (⟨#[]⟩:ByteArray) 0 ([]:List Int) [(Form.mk 3 (⟨#[]⟩:ByteArray) 0 ([]:List Int) [(Form.mk 1 (⟨#[95]⟩:ByteArray) 0 ([]:List Int) ([]:List Form)),(Form.mk 1 (⟨#[97]⟩:ByteArray) 0 ([]:List Int) ([]:List Form)),(Form.mk 1 (⟨#[98]⟩:ByteArray) 0 ([]:List Int) ([]:List Form))]),(Form.mk 1 (⟨#[98]⟩:ByteArray) 0 ([]:List Int) ([]:List Form))])])
theorem t5P14:ze0 (⟨#[40,114,117,108,101,115,32,40,41,32,40,40,95,32,97,41,32,97,41,32,40,40,95,32,53,41,32,54,41,32,40,40,95,32,97,32,98,41,32,98,41,41]⟩:ByteArray) t5F14:=⟨Tr.add 100 (fun m=>by kernel_rfl),of_decide_eq_true (by kernel_rfl),Form.fitB_fit (by kernel_rfl)⟩
def t5F15:Form:=(Form.mk 3 (⟨#[]⟩:ByteArray) 0 ([]:List Int) [(Form.mk 1 (⟨#[107]⟩:ByteArray) 0 ([]:List Int) ([]:List Form)),(Form.mk 2 (⟨#[]⟩:ByteArray) 5 ([]:List Int) ([]:List Form))])
theorem t5P15:ze0 (⟨#[40,107,32,53,41]⟩:ByteArray) t5F15:=⟨Tr.add 100 (fun m=>by kernel_rfl),of_decide_eq_true (by kernel_rfl),Form.fitB_fit (by kernel_rfl)⟩
def t5T:List (List ByteArray):=[[(⟨#[40,114,117,108,101,115,32,40,41,32,40,40,95,32,97,32,98,41,32,40,108,101,116,32,40,40,116,109,112,32,97,41,41,32,40,108,105,115,116,32,98,32,116,109,112,41,41,41,41]⟩:ByteArray),(⟨#[40,115,119,97,112,32,120,32,121,41]⟩:ByteArray)],[(⟨#[40,114,117,108,101,115,32,40,41,32,40,40,95,41,32,48,41,32,40,40,95,32,97,41,32,97,41,32,40,40,95,32,97,32,98,32,46,46,46,41,32,40,105,102,32,97,32,49,32,40,111,114,32,98,32,46,46,46,41,41,41,41]⟩:ByteArray),(⟨#[40,111,114,32,120,32,121,32,122,41]⟩:ByteArray)],[(⟨#[40,114,117,108,101,115,32,40,41,32,40,40,95,32,40,40,120,32,118,41,32,46,46,46,41,32,98,111,100,121,41,32,40,40,108,97,109,98,100,97,32,40,120,32,46,46,46,41,32,98,111,100,121,41,32,118,32,46,46,46,41,41,41]⟩:ByteArray),(⟨#[40,109,121,108,101,116,32,40,40,112,32,49,41,32,40,113,32,50,41,41,32,40,102,32,112,32,113,41,41]⟩:ByteArray)],[(⟨#[40,114,117,108,101,115,32,40,101,108,115,101,41,32,40,40,95,32,101,108,115,101,32,101,41,32,101,41,32,40,40,95,32,99,32,101,32,114,32,46,46,46,41,32,40,105,102,32,99,32,101,32,40,99,111,110,100,32,114,32,46,46,46,41,41,41,41]⟩:ByteArray),(⟨#[40,99,111,110,100,32,112,32,49,32,101,108,115,101,32,50,41]⟩:ByteArray)],[(⟨#[40,114,117,108,101,115,32,40,41,32,40,40,95,32,40,97,32,98,32,46,46,46,41,32,46,46,46,41,32,40,109,32,40,97,32,46,46,46,41,32,40,40,97,32,98,32,46,46,46,41,32,46,46,46,41,32,49,41,41,41]⟩:ByteArray),(⟨#[40,109,32,40,120,32,49,32,50,41,32,40,121,41,41]⟩:ByteArray)],[(⟨#[40,114,117,108,101,115,32,40,41,32,40,40,95,32,97,32,46,46,46,41,32,40,108,105,115,116,32,97,32,46,46,46,32,97,32,46,46,46,41,41,41]⟩:ByteArray),(⟨#[40,116,119,105,99,101,32,49,32,50,41]⟩:ByteArray)],[(⟨#[40,114,117,108,101,115,32,40,41,32,40,40,95,32,97,32,46,46,46,41,32,40,40,97,32,49,41,32,46,46,46,41,41,32,40,40,95,32,98,41,32,98,41,41]⟩:ByteArray),(⟨#[40,112,97,105,114,115,32,112,32,113,41]⟩:ByteArray)],[(⟨#[40,114,117,108,101,115,32,40,41,32,40,40,95,32,97,41,32,97,41,32,40,40,95,32,53,41,32,54,41,32,40,40,95,32,97,32,98,41,32,98,41,41]⟩:ByteArray),(⟨#[40,107,32,53,41]⟩:ByteArray)]]
theorem t5T_tr:Tr (fun m=>zgD m) t5T:=Tr.of (fun m=>rfl)
theorem t5T_all:Pairs [(t5F0,t5F1),(t5F2,t5F3),(t5F4,t5F5),(t5F6,t5F7),(t5F8,t5F9),(t5F10,t5F11),(t5F12,t5F13),(t5F14,t5F15)] t5T:=⟨_,_,rfl,⟨_,_,rfl,t5P0,t5P1⟩,⟨_,_,rfl,⟨_,_,rfl,t5P2,t5P3⟩,⟨_,_,rfl,⟨_,_,rfl,t5P4,t5P5⟩,⟨_,_,rfl,⟨_,_,rfl,t5P6,t5P7⟩,⟨_,_,rfl,⟨_,_,rfl,t5P8,t5P9⟩,⟨_,_,rfl,⟨_,_,rfl,t5P10,t5P11⟩,⟨_,_,rfl,⟨_,_,rfl,t5P12,t5P13⟩,⟨_,_,rfl,⟨_,_,rfl,t5P14,t5P15⟩,rfl⟩⟩⟩⟩⟩⟩⟩⟩
end Go.Abs
end
section
set_option linter.unusedVariables false
set_option linter.unusedSimpArgs false
namespace Go.Abs
theorem Tr.uniq {α:Type} {F:Nat→Option α} {v w:α} (h1:Tr F v) (h2:Tr F w):v=w:=by
 obtain ⟨n1,h1⟩:=h1
 obtain ⟨n2,h2⟩:=h2
 have a:=h1 (n1+n2) (by omega)
 rw [h2 (n1+n2) (by omega)] at a
 exact (Option.some.inj a).symm
theorem TQ.and {α:Type} {F:Nat→Option α} {Q R:α→Prop} (h1:TQ F Q) (h2:TQ F R):TQ F (fun r=>Q r∧R r):=by
 obtain ⟨v,h1,q⟩:=h1
 obtain ⟨w,h2,r⟩:=h2
 obtain rfl:=h1.uniq h2
 exact ⟨v,h1,q,r⟩
theorem TQ.of_tr {α:Type} {F:Nat→Option α} {Q:α→Prop} {v:α} (h:Tr F v) (hq:TQ F Q):Q v:=by
 obtain ⟨w,h2,q⟩:=hq
 obtain rfl:=h.uniq h2
 exact q
theorem l1Mutate_len (c:Form) (o:zbY) (K:Int) (ho:OkRd o K) (hb:c.w≤2 ^ 30) (hf:c.fit) (hK:K+3*c.w≤1000000000):TQ (fun m=>zav m o c) (fun r=>r.1.kids.length=c.kids.length):=by
 have hw:=c.w_kids
 obtain ⟨f1,f2,f3,f4⟩:=hf.parts
 have leaf:∀ (o:zbY) (K:Int),OkRd o K→K+2≤1000000000→TQ (mutF c o) (fun r=>r.1.kids.length=c.kids.length):=by
  intro o K ho hK
  unfold mutF
  refine TQ.bind (zf1 o 14 _ ho (by omega)) (fun v hv=>?_)
  refine TQ.cond (fun _=>?_) (fun _=>TQ.cond (fun _=>?_) (fun _=>TQ.cond (fun _=>?_) (fun _=>TQ.cond (fun _=>?_) (fun _=>?_))))
  ·exact TQ.bind (num_tq _ _ _ hv.1 (by omega) (by decide)) (fun w hw=>TQ.val rfl)
  ·exact TQ.bind (of_tq _ _ _ hv.1 (by omega) (by decide)) (fun w hw=>TQ.val rfl)
  ·exact TQ.bind (num_tq _ _ _ hv.1 (by omega) (by decide)) (fun w hw=>TQ.val rfl)
  ·exact TQ.bind (num_tq _ _ _ hv.1 (by omega) (by decide)) (fun w hw=>TQ.chk (by simp;omega) (TQ.val rfl))
  ·exact TQ.val rfl
 refine TQ.step (fun m=>by rw [zav]) ?_
 refine TQ.ev (zhN _ c (Nat.le_refl _) (by omega)) ?_
 refine TQ.cond (fun hc=>?_) (fun _=>leaf o K ho (by omega))
 have hpos:0 < c.kids.length:=by simpa using hc
 have hl:=Form.ws_len c.kids
 refine TQ.bind (zf1 o 2 _ ho (by omega)) (fun v hv=>?_)
 refine TQ.cond (fun _=>?_) (fun _=>leaf _ _ hv.1 (by omega))
 refine TQ.bind (zf1 _ _ _ hv.1 (by omega)) (fun w hw2=>?_)
 obtain ⟨h1,_,h2,_⟩:=hw2
 obtain ⟨h2,h3⟩:=h2 (by omega)
 obtain ⟨x,hx,hm⟩:=idx_int h2 h3
 have hxw:=Form.ws_mem hm
 obtain ⟨r,hr,_⟩:=zhj _ x w.2 _ (Nat.le_refl _) h1 (by omega) (Form.fits_mem f4 hm) (by omega)
 exact ⟨_,Tr.idx hx (Tr.bind hr (Tr.idx hx Tr.val)),by show (c.kids.set _ _).length=_;rw [List.length_set]⟩
theorem mutate2_len (c:Form) (o:zbY) (K:Int) (ho:OkRd o K) (hc:Dr 1000 c) (hK:K≤1000000) {β:Type} {g:Form→zbY→Nat→Option β} {R:β→Prop}
  (h:∀ f o',OkRd o' (K+7000)→Dr (c.w+2) f→f.kids.length=c.kids.length→TQ (fun m=>g f o' m) R):TQ (fun m=>(zav m o c).bind fun v=>(zav m v.2 v.1).bind fun u=>g u.1 u.2 m) R:=by
 have h1:=hc.w
 refine TQ.bind (TQ.and (zhj _ c o K (Nat.le_refl _) ho (by omega) hc.fit (by omega)) (l1Mutate_len c o K ho (by omega) hc.fit (by omega))) (fun v hv=>?_)
 obtain ⟨⟨v1,v2,v3⟩,v4⟩:=hv
 refine TQ.bind (TQ.and (zhj _ v.1 v.2 _ (Nat.le_refl _) v1 (by omega) v3 (by omega)) (l1Mutate_len v.1 v.2 _ v1 (by omega) v3 (by omega))) (fun u hu=>?_)
 obtain ⟨⟨u1,u2,u3⟩,u4⟩:=hu
 exact h _ _ (u1.mono (by omega)) ⟨by omega,u3⟩ (by omega)
noncomputable def zbs (rules:List Rule) (lits:List Form):Bool:=alls (fun r=>zgI r lits) rules&&(decide ((rules.length:Int)≤9)&&litOk lits)
structure DrR (n:Nat) (r:Rule):Prop where
 p:Dr n r.pattern
 t:Dr n r.template
theorem l5Rules_tr (rules:List Rule) (lits:List Form) (hr:∀ r∈rules,DrR (2 ^ 36) r) (hl:Form.fits lits) (hlb:Form.ws lits≤2 ^ 36):Tr (fun m=>zeG m rules lits) (zbs rules lits):=by
 refine Tr.eq (fun m=>by unfold zeG;rfl) ?_
 have key:=zac rules (fun k zs=>(∀ z∈zs,z∈rules)→Tr (fun m=>zb3 m rules lits (k:Int)) (alls (fun r=>zgI r lits) zs&&(decide ((rules.length:Int)≤9)&&litOk lits))) ?_ ?_ 0 (Nat.zero_le _) (fun z hz=>by simpa using hz)
 ·exact key
 ·intro _
  refine Tr.step (fun m=>by rw [zb3,zW,cond_false]) (Tr.step (fun m=>by rw [zb4,cond_false]) ?_)
  rw [alls,Bool.true_and]
  by_cases h9:(rules.length:Int)≤9
  ·rw [decide_eq_true h9,Bool.true_and]
   exact Tr.tt (decide_eq_true (by omega)) (Tr.bind (specLit_tr lits hl hlb) Tr.val)
  ·rw [decide_eq_false h9,Bool.false_and]
   exact Tr.ff (decide_eq_false (by omega)) Tr.val
 ·intro k x zs hk hx hd ih hz
  have hxr:=hr x (hz x (by simp))
  refine Tr.step (fun m=>by rw [zb3,ltN hk,cond_true]) ?_
  by_cases h10:(k:Int) < 10
  ·refine Tr.step (fun m=>by rw [zb4,decide_eq_true h10,cond_true,zG hx,Option.bind_some]) ?_
   have hsr:=specRuleValid_tr x lits hxr.p.fit hxr.p.w hxr.t.fit hxr.t.w hl hlb
   have hsr2:Tr (fun m=>zc2 m x lits) (zgI x lits):=by
    obtain ⟨n,h⟩:=hsr
    refine ⟨n,fun m hm=>?_⟩
    have:=h m hm
    unfold zgS at this
    show zc2 m x lits=_
    replace this:(zc2 m x lits).bind (fun v1=>some v1)=some (zgI x lits):=this
    cases h5:zc2 m x lits with
    | none=>rw [h5] at this;cases this
    | some b=>rw [h5] at this;exact this
   refine Tr.bind hsr2 ?_
   rw [alls]
   cases zgI x lits with
   | false=>exact Tr.tt rfl Tr.val
   | true=>exact Tr.ff rfl (Tr.eq (fun m=>by rw [zaI (by omega),zbM]) (ih (fun z h=>hz z (by simp [h]))))
  ·refine Tr.step (fun m=>by rw [zb4,decide_eq_false h10,cond_false]) ?_
   rw [decide_eq_false (show ¬ (rules.length:Int)≤9 by omega),Bool.false_and,Bool.and_false]
   exact Tr.ff (decide_eq_false (by omega)) Tr.val
def zgJ (x:Form):Rule:=Rule.mk (x.kids.getD 0 zcr) (x.kids.getD 1 zcr)
def zcW (x:Form):Bool:=decide (x.kind=3)&&decide (x.kids.length=2)
def rulesN:ByteArray:=⟨#[114,117,108,101,115]⟩
def isRules (f:Form):Bool:=f.valid&&(decide (f.kind=3)&&(decide (2≤f.kids.length)&&(decide ((f.kids.getD 0 zcr).name=rulesN)&&decide ((f.kids.getD 1 zcr).kind=3))))
noncomputable def parseR (f:Form):List Form × List Rule × Bool :=
 bif isRules f then
  bif alls zcW (f.kids.drop 2) then
   bif zbs ((f.kids.drop 2).map zgJ) (f.kids.getD 1 zcr).kids then ((f.kids.getD 1 zcr).kids,(f.kids.drop 2).map zgJ,true) else ([],[],false)
  else ([],[],false)
 else ([],[],false)
theorem zib {α:Type} {l:List α} {k:Nat} {d:α} (h:k < l.length):l[k]?=some (l.getD k d)∧l.getD k d∈l:=by
 have:l[k]?=some (l.getD k d):=by rw [List.getD_eq_getElem?_getD,List.getElem?_eq_getElem h];rfl
 exact ⟨this,List.mem_of_getElem? this⟩
theorem kid_dr {n:Nat} {f x:Form} (h:Dr n f) (hx:x∈f.kids):Dr n x:=⟨by have:=Form.ws_mem hx;have:=f.w_kids;have:=h.w;omega,Form.fits_mem h.fit.parts.2.2.2 hx⟩
theorem ruleOf_dr {n:Nat} {x:Form} (h:Dr n x) (hs:zcW x=true):DrR n (zgJ x):=by
 unfold zcW at hs
 rw [Bool.and_eq_true,decide_eq_true_eq,decide_eq_true_eq] at hs
 exact ⟨kid_dr h (zib (by omega)).2,kid_dr h (zib (by omega)).2⟩
theorem zgz (f:Form) (hf:Dr (2 ^ 30) f):Tr (fun m=>zcv m f) (parseR f):=by
 have hw:=f.w_kids
 have hfw:=hf.w
 have hfl:=Form.ws_len f.kids
 refine Tr.eq (fun m=>by unfold zcv;rfl) (Tr.bind (zfN f hf.fit (by omega)) ?_)
 have no:Tr (fun m=>zaw m f true) (([]:List Form),([]:List Rule),false):=Tr.step (fun m=>by rw [zaw];rfl) Tr.val
 unfold parseR isRules
 cases f.valid with
 | false=>exact Tr.tt rfl no
 | true =>
 refine Tr.ff rfl ?_
 by_cases h3:f.kind=3
 case neg=>rw [decide_eq_false h3];exact Tr.tt (by simpa using h3) no
 rw [decide_eq_true h3]
 refine Tr.ff (by simpa using h3) ?_
 by_cases h2:2≤f.kids.length
 case neg=>rw [decide_eq_false h2];exact Tr.tt (decide_eq_true (by omega)) no
 rw [decide_eq_true h2]
 obtain ⟨g0,m0⟩:=zib (l:=f.kids) (k:=0) (d:=zcr) (by omega)
 obtain ⟨g1,m1⟩:=zib (l:=f.kids) (k:=1) (d:=zcr) (by omega)
 generalize hk0:f.kids.getD 0 zcr=k0 at g0 m0
 generalize hk1:f.kids.getD 1 zcr=k1 at g1 m1
 have i0:idx f.kids 0=some k0:=zG g0
 have i1:idx f.kids 1=some k1:=zG g1
 refine Tr.ff (decide_eq_false (by omega)) (Tr.eq (fun m=>by rw [i0,Option.bind_some]) ?_)
 by_cases hn:k0.name=rulesN
 case neg=>rw [decide_eq_false hn];exact Tr.tt (decide_eq_true hn) no
 rw [decide_eq_true hn]
 refine Tr.ff (decide_eq_false (not_not_intro hn)) (Tr.eq (fun m=>by rw [i1,Option.bind_some]) ?_)
 by_cases hk:k1.kind=3
 case neg=>rw [decide_eq_false hk];exact Tr.eq (fun m=>by rw [decide_eq_true (show k1.kind≠3 from hk)]) no
 rw [decide_eq_true hk]
 refine Tr.step (fun m=>by rw [zaw,decide_eq_false (show ¬ k1.kind≠3 by simp [hk]),cond_false]) ?_
 rw [Bool.and_true,Bool.and_true,Bool.and_true,Bool.and_true,cond_true]
 have d1:=kid_dr hf m1
 have d1w:=d1.w
 have k1w:=k1.w_kids
 have k1l:=Form.ws_len k1.kids
 -- what comes behind the literals
 have tail:Tr (fun m=>zci m f k1.kids) (bif alls zcW (f.kids.drop 2) then
   bif zbs ((f.kids.drop 2).map zgJ) k1.kids then (k1.kids,(f.kids.drop 2).map zgJ,true) else ([],[],false)
    else ([],[],false)):=by
  refine Tr.step (fun m=>by rw [zci]) ?_
  have key:∀ (zs:List Form) (k:Nat) (rs:List Rule),f.kids.drop k=zs→rs.length≤k→alls zcW zs=alls zcW (f.kids.drop 2)→(alls zcW zs=true→rs++zs.map zgJ=(f.kids.drop 2).map zgJ)→Tr (fun m=>zbn m f k1.kids rs (k:Int)) (bif alls zcW (f.kids.drop 2) then
   bif zbs ((f.kids.drop 2).map zgJ) k1.kids then (k1.kids,(f.kids.drop 2).map zgJ,true) else ([],[],false)
    else ([],[],false)):=by
   intro zs
   induction zs with
   | nil =>
     intro k rs hd hr ha he
     have hk':¬ k < f.kids.length:=by have:=congrArg List.length hd;rw [List.length_drop] at this;simp at this;omega
     rw [← ha]
     have he2:=he rfl
     rw [List.map_nil,List.append_nil] at he2
     rw [alls,cond_true]
     refine Tr.step (fun m=>by rw [zbn,geN hk',cond_false]) (Tr.step (fun m=>by rw [zcX]) ?_)
     rw [he2]
     have hall:alls zcW (f.kids.drop 2)=true:=by rw [← ha];rfl
     refine Tr.bind (l5Rules_tr _ k1.kids (fun r hr=>?_) d1.fit.parts.2.2.2 (by omega)) ?_
     ·obtain ⟨x,hx,rfl⟩:=List.mem_map.1 hr
      have:=ruleOf_dr (kid_dr hf (List.mem_of_mem_drop hx)) (zc7.1 hall x hx)
      exact ⟨this.p.mono (by omega),this.t.mono (by omega)⟩
     ·cases zbs ((f.kids.drop 2).map zgJ) k1.kids with
      | false=>exact Tr.tt rfl Tr.val
      | true=>exact Tr.ff rfl Tr.val
   | cons x xs ih =>
     intro k rs hd hr ha he
     have hk':k < f.kids.length:=by have:=congrArg List.length hd;rw [List.length_drop] at this;simp at this;omega
     have hx:f.kids[k]?=some x:=by
      have:=congrArg (fun l=>l[0]?) hd
      simpa using this
     have hd2:f.kids.drop (k+1)=xs:=by rw [← List.drop_drop,hd];rfl
     have hxm:=List.mem_of_getElem? hx
     rw [alls] at ha he
     have j6:∀ b:Bool,zcW x=!b→Tr (fun m=>zbp m f k1.kids rs (k:Int) b) (bif alls zcW (f.kids.drop 2) then
      bif zbs ((f.kids.drop 2).map zgJ) k1.kids then (k1.kids,(f.kids.drop 2).map zgJ,true) else ([],[],false)
      else ([],[],false)):=by
      intro b hb
      cases b with
      | true =>
        rw [hb,Bool.not_true,Bool.false_and] at ha
        rw [← ha]
        exact Tr.step (fun m=>by rw [zbp,cond_true];rfl) Tr.val
      | false =>
        rw [hb,Bool.not_false,Bool.true_and] at ha he
        have hs2:zcW x=true:=hb
        have hs:=hs2
        unfold zcW at hs
        rw [Bool.and_eq_true,decide_eq_true_eq,decide_eq_true_eq] at hs
        obtain ⟨e0,_⟩:=zib (l:=x.kids) (k:=0) (d:=zcr) (by omega)
        obtain ⟨e1,_⟩:=zib (l:=x.kids) (k:=1) (d:=zcr) (by omega)
        have q0:idx x.kids 0=some (x.kids.getD 0 zcr):=zG e0
        have q1:idx x.kids 1=some (x.kids.getD 1 zcr):=zG e1
        have dr:=ruleOf_dr (kid_dr hf hxm) hs2
        refine Tr.step (fun m=>by rw [zbp,cond_false,zG hx,Option.bind_some,q0,Option.bind_some]) ?_
        refine Tr.bind (zhN _ _ (Nat.le_refl _) (by have h:=dr.p.w;have h2:(x.kids.getD 0 zcr).w≤2 ^ 30:=h;omega)) (Tr.eq (fun m=>by rw [Option.bind_some,q1,Option.bind_some]) ?_)
        refine Tr.bind (zhN _ _ (Nat.le_refl _) (by have h:=dr.t.w;have h2:(x.kids.getD 1 zcr).w≤2 ^ 30:=h;omega)) ?_
        refine Tr.chk (decide_eq_true (by simp;omega)) (Tr.eq (fun m=>by rw [zbM];rfl) (ih (k+1) (rs++[zgJ x]) hd2 (by simp;omega) ha (fun h=>?_)))
        have:=he h
        rw [List.map_cons] at this
        rw [List.append_assoc]
        exact this
     refine Tr.step (fun m=>by rw [zbn,ltN hk',cond_true,zG hx,Option.bind_some,Option.bind_some]) ?_
     unfold zcW at j6
     by_cases h3:x.kind=3
     ·refine Tr.ff (by simpa using h3) (j6 _ ?_)
      rw [decide_eq_true h3,Bool.true_and]
      by_cases h2:x.kids.length=2
      ·rw [decide_eq_true h2,decide_eq_false (by omega)];rfl
      ·rw [decide_eq_false h2,decide_eq_true (by omega)];rfl
     ·refine Tr.tt (by simpa using h3) (j6 true ?_)
      rw [decide_eq_false h3];rfl
  exact key (f.kids.drop 2) 2 [] rfl (by simp) rfl (fun _=>by simp)
 have lits:=zac k1.kids (fun k zs=>∀ g:List Form,g++zs=k1.kids→g.length=k→Tr (fun m=>zbo m f g (k:Int)) (bif alls zcW (f.kids.drop 2) then
   bif zbs ((f.kids.drop 2).map zgJ) k1.kids then (k1.kids,(f.kids.drop 2).map zgJ,true) else ([],[],false)
    else ([],[],false))) ?_ ?_ 0 (Nat.zero_le _) [] (by simp) rfl
 ·exact lits
 ·intro g hg _
  rw [List.append_nil] at hg
  subst hg
  exact Tr.step (fun m=>by rw [zbo,i1,Option.bind_some,zW,cond_false]) tail
 ·intro k x zs hk' hx hd ih g hg hgl
  have hxm:=List.mem_of_getElem? hx
  have:=Form.ws_mem hxm
  refine Tr.step (fun m=>by rw [zbo,i1,Option.bind_some,ltN hk',cond_true,Option.bind_some,zG hx,Option.bind_some,zbM]) ?_
  refine Tr.bind (zhN _ x (Nat.le_refl _) (by omega)) (Tr.chk (decide_eq_true (by simp;omega)) (ih (g++[x]) (by rw [List.append_assoc];exact hg) (by simp [hgl])))
structure Dr5 (lits:List Form) (rules:List Rule) (f:Form):Prop where
 lw:Form.ws lits≤400
 lf:Form.fits lits
 ne:0 < rules.length
 len:rules.length≤400
 r:∀ r∈rules,DrR 200 r
 f:Dr 400 f
theorem parseR_dr {f:Form} (hf:Dr 102 f) (h3:3≤f.kids.length) (hok:(parseR f).2.2=true):Form.ws (parseR f).1≤400∧Form.fits (parseR f).1∧0 < (parseR f).2.1.length∧(parseR f).2.1.length≤400∧∀ r∈(parseR f).2.1,DrR 200 r:=by
 have hw:=f.w_kids
 have hl:=Form.ws_len f.kids
 have hfw:=hf.w
 unfold parseR at hok ⊢
 cases h1:isRules f with
 | false=>rw [h1] at hok;cases hok
 | true =>
 rw [h1,cond_true] at hok;rw [cond_true]
 cases h2:alls zcW (f.kids.drop 2) with
 | false=>rw [h2] at hok;cases hok
 | true =>
 rw [h2,cond_true] at hok;rw [cond_true]
 cases h4:zbs ((f.kids.drop 2).map zgJ) (f.kids.getD 1 zcr).kids with
 | false=>rw [h4] at hok;cases hok
 | true =>
 rw [cond_true]
 have d1:=kid_dr hf (zib (l:=f.kids) (k:=1) (d:=zcr) (by omega)).2
 have d1w:=d1.w
 have k1w:=(f.kids.getD 1 zcr).w_kids
 refine ⟨by dsimp only;omega,d1.fit.parts.2.2.2,by simp;omega,by simp;omega,fun r hr=>?_⟩
 obtain ⟨x,hx,rfl⟩:=List.mem_map.1 hr
 have:=ruleOf_dr (kid_dr hf (List.mem_of_mem_drop hx)) (zc7.1 h2 x hx)
 exact ⟨this.p.mono (by omega),this.t.mono (by omega)⟩
theorem t5_kids:∀ p∈[(t5F0,t5F1),(t5F2,t5F3),(t5F4,t5F5),(t5F6,t5F7),(t5F8,t5F9),(t5F10,t5F11),(t5F12,t5F13),(t5F14,t5F15)],3≤p.1.kids.length:=by
 intro p hp
 simp only [List.mem_cons,List.not_mem_nil,or_false] at hp
 rcases hp with rfl | rfl | rfl | rfl | rfl | rfl | rfl | rfl<;>exact of_decide_eq_true (by kernel_rfl)
theorem t5_first:∃ b,Abs.idx t5T 0=some [(⟨#[40,114,117,108,101,115,32,40,41,32,40,40,95,32,97,32,98,41,32,40,108,101,116,32,40,40,116,109,112,32,97,41,41,32,40,108,105,115,116,32,98,32,116,109,112,41,41,41,41]⟩:ByteArray),b]:=⟨_,rfl⟩
theorem t5_ok:(parseR t5F0).2.2=true:=by
 have h1:=zgz t5F0 (t5P0.dr.mono (by omega))
 have h2:TQ (fun m=>zcv m t5F0) (fun r=>r.2.2=true):=by
  refine ⟨_,Tr.add 200 (v:=([],[zgJ (t5F0.kids.getD 2 zcr)],true)) (fun m=>by kernel_rfl),rfl⟩
 exact TQ.of_tr (Q:=fun r=>r.2.2=true) h1 h2
theorem l5Case_tq (code:List Int) (hc:∀ x∈code,0≤x∧x < 256):TQ (fun m=>zfj m code) (fun r=>Dr5 r.1 r.2.1 r.2.2):=by
 refine TQ.eq (fun m=>by unfold zfj;rfl) ?_
 refine TQ.bind (open_tq code hc) (fun o ho=>TQ.ev t5T_tr (TQ.bind (zf1 o _ _ ho (by omega)) (fun v hv=>?_)))
 obtain ⟨h1,_,h2,_⟩:=hv
 obtain ⟨h2,h3⟩:=h2 (by decide)
 obtain ⟨p,hp,a,b,hi,pa,pb⟩:=pairs_tq t5T_all h2 h3
 have hp3:=t5_kids p hp
 refine TQ.at hi (TQ.at (idx2_0 _ _) (TQ.ev pa.tr (TQ.bind (zf1 _ 10 _ h1 (by omega)) (fun w hw=>?_))))
 -- the second part
 have j2:∀ (o:zbY) (K:Int) (lits:List Form) (rules:List Rule),OkRd o K→K≤100000→(Form.ws lits≤400∧Form.fits lits∧0 < rules.length∧rules.length≤400∧∀ r∈rules,DrR 200 r)→TQ (fun m=>zcS m t5T v o.b o.p lits rules) (fun r=>Dr5 r.1 r.2.1 r.2.2):=by
  intro o K lits rules ho hK hd
  obtain ⟨d1,d2,d3,d4,d5⟩:=hd
  refine TQ.step (fun m=>by rw [zcS]) (TQ.at hi (TQ.at (idx2_1 a b) (TQ.ev pb.tr (TQ.bind (zf1 _ 8 _ ho.mk' (by omega)) (fun u hu=>?_)))))
  have u1:=hu.1
  have db:=pb.dr
  refine TQ.cond (fun _=>?_) (fun _=>TQ.cond (fun _=>?_) (fun _=>TQ.cond (fun _=>?_) (fun _=>?_)))
  ·refine TQ.bind (zf1 _ _ _ u1 (by omega)) (fun z hz=>?_)
   obtain ⟨_,_,z2,_⟩:=hz
   obtain ⟨z2,z3⟩:=z2 (by decide)
   obtain ⟨q,_,a',b',hi',qa,qb⟩:=pairs_tq t5T_all z2 z3
   exact TQ.at hi' (TQ.at (idx2_1 _ _) (TQ.ev qb.tr (TQ.val ⟨d1,d2,d3,d4,d5,qb.dr.mono (by omega)⟩)))
  ·exact mutate2_tq _ _ _ u1 (db.mono (by omega)) (by omega) (g:=fun f _ _=>some (lits,rules,f)) (fun f o' _ hf=>TQ.val ⟨d1,d2,d3,d4,d5,hf.mono (by have:=db.w;omega)⟩)
  ·refine TQ.bind (l1Dress_tq _ p.2 _ _ (Nat.le_refl _) u1 (by have:=db.w;omega) db.fit (by have:=db.w;omega)) (fun z hz=>TQ.val ⟨d1,d2,d3,d4,d5,⟨?_,hz.2.2⟩⟩)
   have:=db.w;have:=hz.2.1;dsimp only;omega
  ·exact TQ.val ⟨d1,d2,d3,d4,d5,db.mono (by omega)⟩
 have j1:∀ (o:zbY) (K:Int) (f:Form),OkRd o K→K≤100000→Dr 102 f→3≤f.kids.length→TQ (fun m=>zcl m t5T v o.b o.p f.kind f.name f.n f.scopes f.kids) (fun r=>Dr5 r.1 r.2.1 r.2.2):=by
  intro o K f ho hK hf h3
  have e:Form.mk f.kind f.name f.n f.scopes f.kids=f:=by obtain ⟨a,b,c,d,e⟩:=f;rfl
  refine TQ.step (fun m=>by rw [zcl,e]) (TQ.ev (zgz f (hf.mono (by omega))) ?_)
  cases hok:(parseR f).2.2 with
  | true=>exact TQ.cond (fun h=>by cases h) (fun _=>j2 o K _ _ ho hK (parseR_dr hf h3 hok))
  | false =>
    obtain ⟨b0,B0⟩:=t5_first
    refine TQ.cond (fun _=>TQ.at B0 (TQ.at (idx2_0 _ _) (TQ.ev t5P0.tr (TQ.ev (zgz t5F0 (t5P0.dr.mono (by omega))) (j2 o K _ _ ho hK (parseR_dr (t5P0.dr.mono (by omega)) (t5_kids (t5F0,t5F1) (by simp)) t5_ok)))))) (fun h=>by cases h)
 have da:=pa.dr
 refine TQ.cond (fun _=>?_) (fun _=>?_)
 ·exact mutate2_len _ _ _ hw.1 (da.mono (by omega)) (by omega) (g:=fun f o m=>zcl m t5T v o.b o.p f.kind f.name f.n f.scopes f.kids) (fun f o' ho' hf hk=>j1 o' _ f ho' (by omega) (hf.mono (by have:=da.w;omega)) (by omega))
 ·exact j1 w.2 _ p.1 hw.1 (by omega) (da.mono (by omega)) hp3
theorem isOk_name {f:Form} {d:Nat} (h:f.isOk d=true) (h1:f.kind=1):f.valid=true∧f.kids=[]:=by
 have hk:=(zfL h).1 (by omega)
 refine ⟨?_,hk⟩
 unfold Form.valid
 rw [Form.isOk_eq] at h ⊢
 cases hd:decide (d=0) with
 | true=>rw [hd] at h;cases h
 | false =>
   rw [hd,cond_false,decide_eq_true h1,cond_true] at h
   rw [decide_eq_false (by omega),cond_false,decide_eq_true h1,cond_true,h,Form.cnt_eq,hk,Form.cnts];rfl
end Go.Abs
end
section
set_option linter.unusedVariables false
set_option linter.unusedSimpArgs false
namespace Go.Abs
structure Rule.fit (r:Rule):Prop where
 p:r.pattern.fit
 t:r.template.fit
structure zf9.fit (m:zf9):Prop where
 ll:m.literals.length≤9223372036854775807
 l:Form.fits m.literals
 rl:m.rules.length≤9223372036854775807
 r:∀ r∈m.rules,r.fit
structure zaV.fit (x:zaV):Prop where
 bl:x.binds.length≤9223372036854775807
 b:∀ b∈x.binds,b.fit
 ml:x.macros.length≤9223372036854775807
 m:∀ m∈x.macros,m.fit
end Go.Abs
end
