/- A part of the proof: what the functions that the law calls answer, as pure values. -/
import Derived.Test.YtjjjnhpghhamkaaGreatK4ee70f842008
import Derived.Test.YtjjjnhpghhamkaaGreatKdb9d5b1b5054
import Derived.Test.YtjjjnhpghhamkaaGreatK06634278733b
import Derived.Test.YtjjjnhpghhamkaaGreatKa18b558014bb
set_option linter.unusedSimpArgs false
set_option linter.unusedVariables false
section
set_option linter.unusedVariables false
set_option linter.unusedSimpArgs false
namespace Go.Abs
theorem isOk_w:∀ (n:Nat) (f:Form),f.w≤n→∀ d,f.isOk d=true→f.w+1≤26*f.cnt:=by
 intro n
 induction n with
 | zero=>intro f h;have:=f.w_kids;omega
 | succ n ih =>
   intro f hn d hd
   have hw:=f.w_kids
   have hc:=cnt_eq f
   obtain ⟨k1,k2⟩:=zfn hd
   have hsc:f.scopes.length≤24:=by
    rw [Form.isOk_eq] at hd
    cases hd0:decide (d=0) with
    | true=>rw [hd0] at hd;cases hd
    | false =>
    rw [hd0,cond_false] at hd
    by_cases h1:f.kind=1
    ·rw [decide_eq_true h1,cond_true] at hd
     unfold scOk at hd
     simp only [Bool.and_eq_true,decide_eq_true_eq] at hd
     omega
    ·rw [decide_eq_false h1,cond_false] at hd
     by_cases h2:f.kind=2
     ·rw [decide_eq_true h2,cond_true] at hd
      simp only [Bool.and_eq_true,decide_eq_true_eq] at hd
      omega
     ·rw [decide_eq_false h2,cond_false] at hd
      simp only [Bool.and_eq_true,decide_eq_true_eq] at hd
      omega
   have hk:Form.ws f.kids≤26*Form.cnts f.kids:=by
    have:∀ l:List Form,(∀ x∈l,x∈f.kids)→Form.ws l≤26*Form.cnts l:=by
     intro l
     induction l with
     | nil=>intro _;rw [Form.ws];omega
     | cons x l ihl =>
       intro hx
       have h1:=ihl (fun y hy=>hx y (by simp [hy]))
       have hm:=hx x (by simp)
       have h2:=Form.ws_mem hm
       have h3:=ih x (by omega) _ (k2 x hm)
       rw [Form.cnts,Form.ws];omega
    exact this _ (fun x hx=>hx)
   omega
theorem zix {f:Form} (h:f.valid=true):f.w≤10400:=by
 unfold Form.valid at h
 rw [Bool.and_eq_true,decide_eq_true_eq] at h
 have:=isOk_w _ f (Nat.le_refl _) 40 h.1
 omega
theorem patOk_w {p:Form} {lits:List Form} (h:ziA p lits=true):p.w≤10400:=by
 unfold ziA at h
 rw [Bool.and_eq_true] at h
 exact zix h.1
def fstR {α:Type} (D:α→Bool) (l:List α):Int × Bool:=bif decide (0≤fnd D l 0) then (fnd D l 0,true) else (0,false)
theorem loop_first {α β:Type} {xs:List α} {D:α→Bool} {L:Nat→Int→Option (Int × Bool)} {E:Nat→α→Option β} {B:β→Bool}
  (h0:∀ m k,L (m+1) k=bif decide (k < (xs.length:Int)) then (idx xs k).bind fun a=>(E m a).bind fun v=>bif B v then some (k,true) else L m (k+1) else some (0,false))
  (hE:∀ a∈xs,∃ v,Tr (fun m=>E m a) v∧B v=D a):Tr (fun m=>L m 0) (fstR D xs):=by
 have key:=z8 xs (fun k zs=>Tr (fun m=>L m (k:Int)) (bif decide (0≤fnd D zs k) then (fnd D zs k,true) else (0,false))) ?_ ?_ 0 (Nat.zero_le _)
 ·exact key
 ·exact Tr.step (fun m=>by rw [h0,zN,cond_false];rfl) Tr.val
 ·intro k x zs hk hx hd ih
  obtain ⟨v,hv,hb⟩:=hE x (List.mem_of_getElem? hx)
  refine Tr.step (fun m=>by rw [h0,ltN hk,cond_true,zB hx,Option.bind_some,za6]) (Tr.bind hv ?_)
  rw [hb,fnd]
  cases hD:D x with
  | true=>exact Tr.tt rfl (by rw [cond_true,decide_eq_true (by omega),cond_true];exact Tr.val)
  | false=>exact Tr.ff rfl (by rw [cond_false];exact ih)
theorem fstR_cases {α:Type} (D:α→Bool) (l:List α):(fstR D l=(0,false)∧∀ x∈l,D x=false)∨∃ (i:Nat) (x:α),fstR D l=((i:Int),true)∧l[i]?=some x∧D x=true∧∀ y∈l.take i,D y=false:=by
 unfold fstR
 rcases fnd_at (D:=D) (l:=l) (k:=0) with ⟨h1,h2⟩ | ⟨i,x,h1,h2,h3,h4⟩
 ·rw [h1];exact .inl ⟨rfl,h2⟩
 ·rw [h1];refine .inr ⟨i,x,?_,h2,h3,h4⟩
  rw [decide_eq_true (by omega),cond_true];simp
noncomputable def ruleM (bs:List Bind) (lits:List Form) (f:Form) (r:Rule):Bool:=(r.pattern.mt bs lits f).isSome
noncomputable def firstR (bs:List Bind) (rules:List Rule) (lits:List Form) (f:Form):Int × Bool :=
 bif bvOk bs&&(zed rules lits&&f.valid) then fstR (ruleM bs lits f) rules else (0,false)
theorem zh0 {rules:List Rule} {lits:List Form} (h:zed rules lits=true):(∀ r∈rules,zgS r lits=true)∧rules.length≤9:=by
 unfold zed at h
 simp only [Bool.and_eq_true,decide_eq_true_eq] at h
 exact ⟨zek.1 h.1,by have:=h.2.1;omega⟩
theorem zhW {r:Rule} {lits:List Form} (h:zgS r lits=true):ziA r.pattern lits=true:=by
 unfold zgS at h
 rw [Bool.and_eq_true] at h
 exact h.1
structure RulesF (rules:List Rule):Prop where
 fit:∀ r∈rules,r.fit
 pw:∀ r∈rules,r.pattern.w≤2 ^ 36
 tw:∀ r∈rules,r.template.w≤2 ^ 36
theorem implFirst_tr (bs:List Bind) (rules:List Rule) (lits:List Form) (f:Form) (hb:∀ b∈bs,b.fit) (hbl:bs.length≤2 ^ 36) (hr:RulesF rules) (hl:Form.fits lits) (hf:f.fit) :
  Tr (fun m=>zeb m bs rules lits f) (firstR bs rules lits f):=by
 refine Tr.eq (fun m=>by unfold zeb;rfl) (Tr.bind (zf6 bs (by omega) hb) ?_)
 unfold firstR
 have no:Tr (fun m=>zbo m bs rules lits f true) ((0:Int),false):=Tr.step (fun m=>by rw [zbo];rfl) Tr.val
 cases hbv:bvOk bs with
 | false=>exact Tr.tt rfl no
 | true =>
 refine Tr.ff rfl (Tr.bind (rulesOk_tr rules lits (fun r h=>⟨hr.fit r h,hr.pw r h,hr.tw r h⟩) hl) ?_)
 cases hro:zed rules lits with
 | false=>exact Tr.tt rfl no
 | true =>
 refine Tr.ff rfl (Tr.bind (zcP f hf) ?_)
 cases hfv:f.valid with
 | false=>exact no
 | true =>
 refine Tr.step (fun m=>by rw [zbo,Bool.not_true,cond_false]) ?_
 rw [Bool.true_and,Bool.true_and,cond_true]
 have hfw:=zix hfv
 refine loop_first (L:=fun m k=>zch m bs rules lits f k) (E:=fun m r=>zcN m bs r.pattern lits f) (B:=fun v=>v.2) (fun m k=>by rw [zch]) (fun r h=>?_)
 have hpo:=zhW ((zh0 hro).1 r h)
 have hpw:=patOk_w hpo
 exact ⟨_,implMatch_n bs lits hbl hb hbv _ r.pattern (Nat.le_refl _) (ziz hpo) (hr.fit r h).1 (by omega) f hfv hf (by omega),rfl⟩
theorem specFirst_tr (bs:List Bind) (rules:List Rule) (lits:List Form) (f:Form) (hb:∀ b∈bs,b.fit) (hbl:bs.length≤2 ^ 36) (hr:RulesF rules) (hl:Form.fits lits) (hlw:Form.ws lits≤2 ^ 36) (hf:f.fit) (hfb:f.w≤2 ^ 36) :
  Tr (fun m=>zd9 m bs rules lits f) (firstR bs rules lits f):=by
 refine Tr.eq (fun m=>by unfold zd9;rfl) (Tr.bind (specBindsValid_tr bs hb) ?_)
 unfold firstR
 have no:Tr (fun m=>zbm m bs rules lits f true) ((0:Int),false):=Tr.step (fun m=>by rw [zbm];rfl) Tr.val
 cases hbv:bvOk bs with
 | false=>exact Tr.tt rfl no
 | true =>
 refine Tr.ff rfl (Tr.bind (l5Rules_tr rules lits (fun r h=>⟨⟨hr.pw r h,(hr.fit r h).1⟩,⟨hr.tw r h,(hr.fit r h).2⟩⟩) hl hlw) ?_)
 cases hro:zed rules lits with
 | false=>exact Tr.tt rfl no
 | true =>
 refine Tr.ff rfl (Tr.bind (zd1 f hf hfb) ?_)
 cases hfv:f.valid with
 | false=>exact no
 | true =>
 refine Tr.step (fun m=>by rw [zbm,Bool.not_true,cond_false]) ?_
 rw [Bool.true_and,Bool.true_and,cond_true]
 have hfw:=zix hfv
 refine loop_first (L:=fun m k=>zcg m bs rules lits f k) (E:=fun m r=>zb4 m bs r.pattern lits f) (B:=fun v=>v.2) (fun m k=>by rw [zcg]) (fun r h=>?_)
 have hpo:=zhW ((zh0 hro).1 r h)
 have hpw:=patOk_w hpo
 obtain ⟨v,hv,h1,h2⟩:=l4Match_n bs lits hbl _ r.pattern (Nat.le_refl _) (ziz hpo) (by omega) f (by omega)
 exact ⟨v,hv,h1⟩
theorem Dr5.rf {lits:List Form} {rules:List Rule} {f:Form} (h:Dr5 lits rules f):RulesF rules :=
 ⟨fun r hr=>⟨(h.r r hr).p.fit,(h.r r hr).t.fit⟩,fun r hr=>by have:=(h.r r hr).p.w;omega,fun r hr=>by have:=(h.r r hr).t.w;omega⟩
theorem DrawFirstRule_tq (code:List Int) (hc:∀ x∈code,0≤x∧x < 256):TQ (fun m=>zdx m code) (fun r=>r.1=[]∧Dr5 r.2.2.1 r.2.1 r.2.2.2) :=
 TQ.eq (fun m=>by unfold zdx;rfl) (TQ.bind (l5Case_tq code hc) (fun v hv=>TQ.val ⟨rfl,hv⟩))
end Go.Abs
end
section
set_option linter.unusedVariables false
set_option linter.unusedSimpArgs false
namespace Go.Abs
noncomputable def zd0 (x:Form) (h:Hit):Bool:=Form.part h.name x&&!decide (h.depth=0)
noncomputable def cntR (x:Form):Int→List Hit→Option Int
 | n,[]=>some n
 | n,h::hs=>bif zd0 x h then (bif decide (0≤n)&&decide (n≠(h.many.length:Int)) then none else cntR x (h.many.length:Int) hs) else cntR x n hs
noncomputable def nthR (x:Form) (n:Nat) (hs:List Hit):List Hit:=hs.map fun h=>bif zd0 x h then h.many.getD n hit0 else h
def rowF (D:Nat→Option Form):Nat→Nat→Option (List Form)
 | _,0=>some []
 | n,k+1=>match D n with
   | none=>none
   | some y=>match rowF D (n+1) k with
     | none=>none
     | some ys=>some (y::ys)
noncomputable def findO (hs:List Hit) (t:Form):Form:=bif decide (0≤hAt hs t) then (hs.getD (hAt hs t).toNat hit0).one else t
def fapp:Option (List Form)→Option (List Form)→Option (List Form)
 | some a,some b=>some (a++b)
 | _,_=>none
mutual
noncomputable def Form.fl:Form→List Hit→Option Form
 | .mk k nm n sc kids,hs=>bif decide (k=1) then some (findO hs (.mk k nm n sc kids))
   else match Form.fls kids hs with
    | none=>none
    | some ys=>bif decide (Form.cnts ys≤400) then some (.mk k nm n sc ys) else none
noncomputable def Form.fls:List Form→List Hit→Option (List Form)
 | [],_=>some []
 | x::xs,hs=>bif zE x then Form.fls xs hs
   else fapp (bif zbU xs then (match cntR x (-1) hs with
    | none=>none
    | some N=>rowF (fun i=>Form.fl x (nthR x i hs)) 0 N.toNat) else (match Form.fl x hs with
    | none=>none
    | some y=>some [y])) (Form.fls xs hs)
end
theorem Form.fl_eq (f:Form) (hs:List Hit):f.fl hs=bif decide (f.kind=1) then some (findO hs f)
  else match Form.fls f.kids hs with
   | none=>none
   | some ys=>bif decide (Form.cnts ys≤400) then some (.mk f.kind f.name f.n f.scopes ys) else none:=by
 obtain ⟨a,b,c,d,e⟩:=f;rw [Form.fl];rfl
theorem Form.fls_eq (x:Form) (xs:List Form) (hs:List Hit):Form.fls (x::xs) hs=bif zE x then Form.fls xs hs
  else fapp (bif zbU xs then (match cntR x (-1) hs with
   | none=>none
   | some N=>rowF (fun i=>Form.fl x (nthR x i hs)) 0 N.toNat) else (match Form.fl x hs with
   | none=>none
   | some y=>some [y])) (Form.fls xs hs):=by rw [Form.fls]
def DepR (l:List (Form × Int)) (v:Nat) (hs:List Hit) (x:Form):Prop:=∀ g,Form.part g x=true→(0 < dep l g-v∨0 < dep (nd hs) g)→dep (nd hs) g=dep l g-v
structure zhK (l:List (Form × Int)) (v:Nat) (hs:List Hit) (x:Form):Prop where
 hv:hvOk hs=true
 rws:x.rws l v=true
 ok:∃ d,x.isOk d=true
 R:DepR l v hs x
theorem part_self (x:Form):Form.part x x=true:=by rw [Form.part_eq,zgR,Bool.true_or]
theorem part_kid {g x f:Form} (hx:x∈f.kids) (h:Form.part g x=true):Form.part g f=true:=by
 rw [Form.part_eq,parts_mem hx h,Bool.or_true]
theorem kR_kid {l:List (Form × Int)} {v:Nat}:∀ {zs:List Form} {i:Nat} {x:Form},Form.kR l v zs=true→zs[i]?=some x→zE x=false→bif zbU (zs.drop (i+1)) then x.anyD l v=true∧x.rws l (v+1)=true else x.rws l v=true
 | y::ys,0,x,h,hx,hd=>by
   simp at hx;subst hx
   rw [Form.kR,Bool.and_eq_true,hd,cond_false] at h
   have h1:=h.1
   simp only [List.drop_succ_cons,List.drop_zero]
   cases hn:zbU ys with
   | true=>rw [hn,cond_true,Bool.and_eq_true] at h1;exact h1
   | false=>rw [hn,cond_false] at h1;exact h1
 | y::ys,i+1,x,h,hx,hd=>by
   rw [Form.kR,Bool.and_eq_true] at h
   have:=kR_kid (zs:=ys) (i:=i) (x:=x) h.2 (by simpa using hx) hd
   simpa using this
mutual
theorem anyD_ex {l:List (Form × Int)} {v:Int}:∀ f:Form,f.anyD l v=true→∃ g,Form.part g f=true∧v < dep l g
 | .mk a b c d e,h=>by
   rw [Form.anyD,Bool.or_eq_true] at h
   rcases h with h | h
   ·exact ⟨_,part_self _,of_decide_eq_true h⟩
   ·obtain ⟨g,h1,h2⟩:=anyDs_ex e h
    exact ⟨g,by rw [Form.part,h1,Bool.or_true],h2⟩
theorem anyDs_ex {l:List (Form × Int)} {v:Int}:∀ zs:List Form,Form.anyDs l v zs=true→∃ g,Form.parts g zs=true∧v < dep l g
 | [],h=>by rw [Form.anyDs] at h;cases h
 | x::xs,h=>by
   rw [Form.anyDs,Bool.or_eq_true] at h
   rcases h with h | h
   ·obtain ⟨g,h1,h2⟩:=anyD_ex x h
    exact ⟨g,by rw [Form.parts,h1,Bool.true_or],h2⟩
   ·obtain ⟨g,h1,h2⟩:=anyDs_ex xs h
    exact ⟨g,by rw [Form.parts,h1,Bool.or_true],h2⟩
end
theorem zit {hs:List Hit} (h:hvOk hs=true):(∀ x∈hs,x.isOk=true)∧hs.length≤20:=by
 unfold hvOk at h
 rw [Bool.and_eq_true,decide_eq_true_eq] at h
 refine ⟨?_,by omega⟩
 have:∀ {l ps:List Hit},hvF ps l=true→∀ x∈l,x.isOk=true:=by
  intro l
  induction l with
  | nil=>intro ps _ x hx;cases hx
  | cons y ys ih =>
    intro ps hv x hx
    rw [hvF,Bool.and_eq_true,Bool.and_eq_true] at hv
    rcases List.mem_cons.1 hx with rfl | hx
    ·exact hv.1
    ·exact ih hv.2.2 x hx
 exact this h.1
theorem zis {h:Hit} (hk:h.isOk=true):isNm h.name=true∧(0≤h.depth∧h.depth≤3)∧(h.depth=0→h.one.valid=true∧h.many=[])∧(h.depth≠0→h.many.length≤400∧∀ y∈h.many,y.name=h.name∧y.depth=h.depth-1∧y.isOk=true):=by
 rw [Hit.isOk_eq] at hk
 simp only [Bool.and_eq_true,decide_eq_true_eq] at hk
 obtain ⟨a,_,_,b,c⟩:=hk
 refine ⟨a,b,fun h0=>?_,fun h0=>?_⟩
 ·rw [decide_eq_true h0,cond_true,Bool.and_eq_true,decide_eq_true_eq] at c
  exact ⟨c.1,List.eq_nil_of_length_eq_zero (by omega)⟩
 ·rw [decide_eq_false h0,cond_false,Bool.and_eq_true,Bool.and_eq_true,decide_eq_true_eq] at c
  refine ⟨by omega,fun y hy=>?_⟩
  have:=zek.1 c.2.2 y hy
  rw [Bool.and_eq_true,Bool.and_eq_true,decide_eq_true_eq] at this
  exact ⟨zhR.1 this.1,this.2.1,this.2.2⟩
theorem hv_name {hs:List Hit} (hv:hvOk hs=true) {h:Hit} (hm:h∈hs):dep (nd hs) h.name=h.depth:=by
 have hn:=(zis ((zit hv).1 h hm)).1
 unfold hvOk at hv
 rw [Bool.and_eq_true] at hv
 unfold isNm at hn
 rw [Bool.and_eq_true,decide_eq_true_eq] at hn
 unfold dep
 rw [decide_eq_false (by simp [hn.1]),cond_false]
 exact hv_dep hv.1 h hm
theorem depF_none {f:Form}:∀ {l:List Hit},(∀ h∈l,h.name≠f)→depF (nd l) f=-1
 | [],_=>rfl
 | x::xs,h=>by
   show depF ((x.name,x.depth)::nd xs) f=-1
   rw [depF,same_ne (h x (by simp)),cond_false,depF_none (fun y hy=>h y (by simp [hy]))]
theorem dep_cases {hs:List Hit} (hv:hvOk hs=true) (g:Form):(∃ h∈hs,h.name=g∧dep (nd hs) g=h.depth)∨((∀ h∈hs,h.name≠g)∧dep (nd hs) g=-1):=by
 by_cases hx:∃ h∈hs,h.name=g
 ·obtain ⟨h,hm,rfl⟩:=hx
  exact .inl ⟨h,hm,rfl,hv_name hv hm⟩
 ·have hn:∀ h∈hs,h.name≠g:=fun h hm he=>hx ⟨h,hm,he⟩
  refine .inr ⟨hn,?_⟩
  unfold dep
  cases decide (g.kind≠1) with
  | true=>rfl
  | false=>rw [cond_false];exact depF_none hn
theorem cntR_some {x:Form}:∀ {hs:List Hit} {n N:Int},cntR x n hs=some N→((N=n∧∀ h∈hs,zd0 x h=true→False)∨(∃ h∈hs,zd0 x h=true)∧∀ h∈hs,zd0 x h=true→(h.many.length:Int)=N)∧(0≤n→N=n)
 | [],n,N,h=>by rw [cntR] at h;cases h;exact ⟨.inl ⟨rfl,fun h hh=>by cases hh⟩,fun _=>rfl⟩
 | y::ys,n,N,h=>by
   rw [cntR] at h
   cases hd:zd0 x y with
   | false =>
     rw [hd,cond_false] at h
     obtain ⟨h1,h2⟩:=cntR_some h
     refine ⟨?_,h2⟩
     rcases h1 with ⟨e,h1⟩ | ⟨⟨z,hz,hzd⟩,h1⟩
     ·exact .inl ⟨e,fun w hw hwd=>by
       rcases List.mem_cons.1 hw with rfl | hw
       ·rw [hd] at hwd;cases hwd
       ·exact h1 w hw hwd⟩
     ·exact .inr ⟨⟨z,by simp [hz],hzd⟩,fun w hw hwd=>by
       rcases List.mem_cons.1 hw with rfl | hw
       ·rw [hd] at hwd;cases hwd
       ·exact h1 w hw hwd⟩
   | true =>
     rw [hd,cond_true] at h
     cases hc:(decide (0≤n)&&decide (n≠(y.many.length:Int))) with
     | true=>rw [hc,cond_true] at h;cases h
     | false =>
       rw [hc,cond_false] at h
       obtain ⟨h1,h2⟩:=cntR_some h
       have hN:=h2 (by omega)
       refine ⟨.inr ⟨⟨y,by simp,hd⟩,fun w hw hwd=>?_⟩,fun h0=>?_⟩
       ·rcases List.mem_cons.1 hw with rfl | hw
        ·exact hN.symm
        ·rcases h1 with ⟨_,h1⟩ | ⟨_,h1⟩
         ·exact (h1 w hw hwd).elim
         ·exact h1 w hw hwd
       ·rw [hN]
        rw [Bool.and_eq_false_iff] at hc
        rcases hc with hc | hc
        ·exact absurd h0 (of_decide_eq_false hc)
        ·have:=of_decide_eq_false hc;omega
theorem zhK.kid {l:List (Form × Int)} {v:Nat} {hs:List Hit} {f x:Form} (hF:zhK l v hs f) {i:Nat} (hx:f.kids[i]?=some x) (hd:zE x=false) (hn:zbU (f.kids.drop (i+1))=false):zhK l v hs x:=by
 have hm:=List.mem_of_getElem? hx
 have hr:=hF.rws
 rw [Form.rws_eq,Bool.and_eq_true] at hr
 have:=kR_kid hr.2 hx hd
 rw [hn,cond_false] at this
 obtain ⟨d,hok⟩:=hF.ok
 exact ⟨hF.hv,this,⟨_,(zfn hok).2 x hm⟩,fun g hg=>hF.R g (part_kid hm hg)⟩
theorem many_mem {h:Hit} {n:Nat} (hn:n < h.many.length):h.many.getD n hit0∈h.many:=by
 rw [List.getD_eq_getElem?_getD,List.getElem?_eq_getElem hn];exact List.getElem_mem hn
theorem nthR_names {x:Form} {n:Nat}:∀ {hs:List Hit},(∀ h∈hs,h.isOk=true)→(∀ h∈hs,zd0 x h=true→n < h.many.length)→(nthR x n hs).map Hit.name=hs.map Hit.name
 | [],_,_=>rfl
 | h::hs,hk,hn=>by
   have ih:=nthR_names (x:=x) (n:=n) (hs:=hs) (fun y hy=>hk y (by simp [hy])) (fun y hy=>hn y (by simp [hy]))
   show (bif zd0 x h then h.many.getD n hit0 else h).name::(nthR x n hs).map Hit.name=h.name::hs.map Hit.name
   rw [ih]
   cases hd:zd0 x h with
   | false=>rfl
   | true =>
     rw [cond_true]
     have h0:h.depth≠0:=by
      unfold zd0 at hd
      rw [Bool.and_eq_true,Bool.not_eq_true',decide_eq_false_iff_not] at hd
      exact hd.2
     rw [(((zis (hk h (by simp))).2.2.2 h0).2 _ (many_mem (hn h (by simp) hd))).1]
theorem hvF_dist:∀ {l ps:List Hit},hvF ps l=true→distF (ps.map Hit.name) (l.map Hit.name)=true
 | [],ps,_=>rfl
 | x::xs,ps,h=>by
   rw [hvF,Bool.and_eq_true,Bool.and_eq_true] at h
   have ih:=hvF_dist h.2.2
   rw [List.map_append] at ih
   rw [List.map_cons,distF]
   have h1:inF (ps.map Hit.name) x.name=false:=by
    unfold inF
    rw [zek.2 (fun y hy=>?_)]
    ·rfl
    ·obtain ⟨z,hz,rfl⟩:=List.mem_map.1 hy
     exact zek.1 h.2.1 z hz
   rw [h1];simpa using ih
theorem nthR_hv {x:Form} {n:Nat} {hs:List Hit} (hv:hvOk hs=true) (hn:∀ h∈hs,zd0 x h=true→n < h.many.length):hvOk (nthR x n hs)=true:=by
 obtain ⟨h1,h2⟩:=zit hv
 have hnm:=nthR_names h1 hn
 unfold hvOk at hv ⊢
 rw [Bool.and_eq_true] at hv ⊢
 refine ⟨hvF_of (fun y hy=>?_) ?_,?_⟩
 ·obtain ⟨h,hm,rfl⟩:=List.mem_map.1 hy
  cases hd:zd0 x h with
  | false=>exact h1 h hm
  | true =>
    rw [cond_true]
    have h0:h.depth≠0:=by
     unfold zd0 at hd
     rw [Bool.and_eq_true,Bool.not_eq_true',decide_eq_false_iff_not] at hd
     exact hd.2
    exact (((zis (h1 h hm)).2.2.2 h0).2 _ (many_mem (hn h hm hd))).2.2
 ·rw [hnm];exact hvF_dist hv.1
 ·have:(nthR x n hs).length=hs.length:=by unfold nthR;rw [List.length_map]
  rw [this];exact hv.2
theorem zhK.row {l:List (Form × Int)} {v:Nat} {hs:List Hit} {f x:Form} (hF:zhK l v hs f) {i:Nat} (hx:f.kids[i]?=some x) (hd:zE x=false) (hn:zbU (f.kids.drop (i+1))=true) :
  (∃ h∈hs,zd0 x h=true)∧∀ n,(∀ h∈hs,zd0 x h=true→n < h.many.length)→zhK l (v+1) (nthR x n hs) x:=by
 have hm:=List.mem_of_getElem? hx
 have hr:=hF.rws
 rw [Form.rws_eq,Bool.and_eq_true] at hr
 have hk:=kR_kid hr.2 hx hd
 rw [hn,cond_true] at hk
 obtain ⟨d,hok⟩:=hF.ok
 refine ⟨?_,fun n hlen=>⟨nthR_hv hF.hv hlen,hk.2,⟨_,(zfn hok).2 x hm⟩,fun g hg hpos=>?_⟩⟩
 ·obtain ⟨g,h1,h2⟩:=anyD_ex x hk.1
  have hR:=hF.R g (part_kid hm h1) (.inl (by omega))
  rcases dep_cases hF.hv g with ⟨h,hmem,rfl,he⟩ | ⟨_,he⟩
  ·refine ⟨h,hmem,?_⟩
   unfold zd0
   rw [h1,Bool.true_and,decide_eq_false (by omega)];rfl
  ·omega
 ·have hR:=hF.R g (part_kid hm hg)
  rcases dep_cases hF.hv g with ⟨h,hmem,rfl,he⟩ | ⟨hno,he⟩
  ·have hin:(bif zd0 x h then h.many.getD n hit0 else h)∈nthR x n hs:=List.mem_map.2 ⟨h,hmem,rfl⟩
   have hok:=zis ((zit hF.hv).1 h hmem)
   by_cases h0:h.depth=0
   ·have hdp:zd0 x h=false:=by unfold zd0;rw [decide_eq_true h0];simp
    rw [hdp,cond_false] at hin
    have:=hv_name (nthR_hv hF.hv hlen) hin
    rcases hpos with hp | hp
    ·have:=hR (.inl (by omega));omega
    ·omega
   ·have hdp:zd0 x h=true:=by unfold zd0;rw [hg,decide_eq_false h0];rfl
    rw [hdp,cond_true] at hin
    have hnm:=(hok.2.2.2 h0).2 _ (many_mem (hlen h hmem hdp))
    have h2:=hv_name (nthR_hv hF.hv hlen) hin
    rw [hnm.1,hnm.2.1] at h2
    have:=hR (.inr (by have:=hok.2.1.1;omega))
    rw [h2];omega
  ·have h2:dep (nd (nthR x n hs)) g=-1:=by
    rcases dep_cases (nthR_hv hF.hv hlen) g with ⟨h',hmem',hnm',_⟩ | ⟨_,he'⟩
    ·have:h'.name∈(nthR x n hs).map Hit.name:=List.mem_map.2 ⟨h',hmem',rfl⟩
     rw [nthR_names (zit hF.hv).1 hlen] at this
     obtain ⟨h,hmem,hnm⟩:=List.mem_map.1 this
     exact absurd (hnm.trans hnm') (hno h hmem)
    ·exact he'
   rcases hpos with hp | hp
   ·have:=hR (.inl (by omega));omega
   ·omega
theorem zhK.leaf {l:List (Form × Int)} {v:Nat} {hs:List Hit} {x:Form} (hF:zhK l v hs x):hAt hs x=-1∨∃ i h,hAt hs x=((i:Nat):Int)∧hs[i]?=some h∧h.depth=0∧h.one.valid=true:=by
 rcases fnd_at (D:=fun y:Hit=>same y.name x) (l:=hs) (k:=0) with ⟨h1,_⟩ | ⟨i,h,h1,h2,h3,_⟩
 ·exact .inl h1
 ·have hm:=List.mem_of_getElem? h2
  have hn:h.name=x:=zhR.1 h3
  have hok:=zis ((zit hF.hv).1 h hm)
  have hd:=hv_name hF.hv hm
  rw [hn] at hd
  have hr:=hF.rws
  rw [Form.rws_eq,Bool.and_eq_true,Bool.not_eq_true',decide_eq_false_iff_not] at hr
  have h0:h.depth=0:=by
   by_cases hp:0 < h.depth
   ·have:=hF.R x (part_self x) (.inr (by omega));omega
   ·have:=hok.2.1.1;omega
  exact .inr ⟨i,h,by unfold hAt;rw [h1,Nat.zero_add],h2,h0,(hok.2.2.1 h0).1⟩
structure FormF (y:Form):Prop where
 ok:∃ d,y.isOk d=true
 cnt:y.cnt≤401
theorem FormF.w {y:Form} (h:FormF y):y.w≤10426:=by
 obtain ⟨d,hd⟩:=h.ok
 have:=isOk_w _ y (Nat.le_refl _) d hd
 have:=h.cnt;omega
theorem all_isOk:∀ {l:List Form},(∀ y∈l,∃ d,y.isOk d=true)→∃ D,∀ y∈l,y.isOk D=true
 | [],_=>⟨0,fun y hy=>by cases hy⟩
 | x::xs,h=>by
   obtain ⟨D,hD⟩:=all_isOk (l:=xs) (fun y hy=>h y (by simp [hy]))
   obtain ⟨d,hd⟩:=h x (by simp)
   refine ⟨D+d,fun y hy=>?_⟩
   rcases List.mem_cons.1 hy with rfl | hy
   ·exact isOk_mono _ y (Nat.le_refl _) d _ (by omega) hd
   ·exact isOk_mono _ y (Nat.le_refl _) D _ (by omega) (hD y hy)
theorem isOk_node {f:Form} {d:Nat} (h:f.isOk d=true) (h1:¬ f.kind=1) {ys:List Form} (hk:f.kind=3∨ys=[]) {D:Nat} (hD:∀ y∈ys,y.isOk D=true):f.name=(⟨#[]⟩:ByteArray)∧f.scopes=[]∧(Form.mk f.kind f.name f.n f.scopes ys).isOk (D+1)=true:=by
 rw [Form.isOk_eq] at h
 cases hd0:decide (d=0) with
 | true=>rw [hd0] at h;cases h
 | false =>
 rw [hd0,cond_false,decide_eq_false h1,cond_false] at h
 have hd1:decide (D+1=0)=false:=decide_eq_false (by omega)
 generalize f.kind=k at h h1 hk ⊢
 generalize f.name=nm at h ⊢
 generalize f.n=n at h ⊢
 generalize f.scopes=sc at h ⊢
 rw [Form.isOk,Form.isOks_eq,hd1,cond_false,decide_eq_false h1,cond_false]
 by_cases h2:k=2
 ·rw [decide_eq_true h2,cond_true] at h ⊢
  simp only [Bool.and_eq_true,decide_eq_true_eq] at h ⊢
  obtain ⟨a,b,c,e⟩:=h
  have hy:ys=[]:=by
   rcases hk with hk | hk
   ·omega
   ·exact hk
  subst hy
  exact ⟨a,List.eq_nil_of_length_eq_zero (by omega),a,b,c,by simp⟩
 ·rw [decide_eq_false h2,cond_false] at h ⊢
  simp only [Bool.and_eq_true,decide_eq_true_eq] at h ⊢
  obtain ⟨a,b,c,e,g⟩:=h
  exact ⟨b,List.eq_nil_of_length_eq_zero (by omega),a,b,c,e,zek.2 (fun y hy=>hD y hy)⟩
end Go.Abs
end
section
set_option linter.unusedVariables false
set_option linter.unusedSimpArgs false
namespace Go.Abs
theorem fapp_some {a b:Option (List Form)} {r:List Form} (h:fapp a b=some r):∃ x y,a=some x∧b=some y∧r=x++y:=by
 cases a<;>cases b<;>simp [fapp] at h
 exact ⟨_,_,rfl,rfl,h.symm⟩
theorem rowF_mem {D:Nat→Option Form}:∀ {k n:Nat} {r:List Form},rowF D n k=some r→∀ y∈r,∃ i,n≤i∧i < n+k∧D i=some y
 | 0,n,r,h,y,hy=>by rw [rowF] at h;cases h;cases hy
 | k+1,n,r,h,y,hy=>by
   rw [rowF] at h
   cases hd:D n with
   | none=>simp [hd] at h
   | some z =>
     cases hr:rowF D (n+1) k with
     | none=>simp [hd,hr] at h
     | some ys =>
       simp [hd,hr] at h;subst h
       rcases List.mem_cons.1 hy with rfl | hy
       ·exact ⟨n,Nat.le_refl _,by omega,hd⟩
       ·obtain ⟨i,h1,h2,h3⟩:=rowF_mem hr y hy
        exact ⟨i,by omega,by omega,h3⟩
theorem cntR_lt {x:Form} {hs:List Hit} {N:Int} (hv:hvOk hs=true) (hne:∃ h∈hs,zd0 x h=true) (h:cntR x (-1) hs=some N):0≤N∧N≤400∧∀ h∈hs,zd0 x h=true→h.many.length=N.toNat:=by
 obtain ⟨h1,_⟩:=cntR_some h
 rcases h1 with ⟨_,h1⟩ | ⟨⟨y,hy,hyd⟩,h1⟩
 ·obtain ⟨y,hy,hyd⟩:=hne;exact (h1 y hy hyd).elim
 ·have e:=h1 y hy hyd
  have h0:y.depth≠0:=by
   unfold zd0 at hyd
   rw [Bool.and_eq_true,Bool.not_eq_true',decide_eq_false_iff_not] at hyd
   exact hyd.2
  have:=((zis ((zit hv).1 y hy)).2.2.2 h0).1
  exact ⟨by omega,by omega,fun z hz hzd=>by have:=h1 z hz hzd;omega⟩
theorem fls_ok_of {l:List (Form × Int)} {v:Nat} {hs:List Hit} {f:Form} (hF:zhK l v hs f) (ih:∀ x∈f.kids,∀ v' hs',zhK l v' hs' x→∀ y,x.fl hs'=some y→FormF y):∀ (rest:List Form) (k:Nat) (r:List Form),f.kids.drop k=rest→Form.fls rest hs=some r→∀ y∈r,FormF y
 | [],k,r,hd,h,y,hy=>by rw [Form.fls] at h;cases h;cases hy
 | x::xs,k,r,hd,h,y,hy=>by
   obtain ⟨hx,hd2,hlt⟩:=zhl hd
   have hm:=List.mem_of_getElem? hx
   rw [Form.fls_eq] at h
   cases hdx:zE x with
   | true=>rw [hdx,cond_true] at h;exact fls_ok_of hF ih xs (k+1) r hd2 h y hy
   | false =>
     rw [hdx,cond_false] at h
     obtain ⟨a,b,ha,hb,rfl⟩:=fapp_some h
     rcases List.mem_append.1 hy with hy | hy
     ·cases hn:zbU xs with
      | false =>
        rw [hn,cond_false] at ha
        cases hf:x.fl hs with
        | none=>rw [hf] at ha;cases ha
        | some z =>
          rw [hf] at ha;cases ha
          rw [List.mem_singleton] at hy;subst hy
          exact ih x hm v hs (hF.kid hx hdx (by rw [hd2];exact hn)) _ hf
      | true =>
        rw [hn,cond_true] at ha
        obtain ⟨r1,r2⟩:=hF.row hx hdx (by rw [hd2];exact hn)
        cases hc:cntR x (-1) hs with
        | none=>rw [hc] at ha;cases ha
        | some N =>
          rw [hc] at ha
          obtain ⟨c0,c1,c2⟩:=cntR_lt hF.hv r1 hc
          obtain ⟨i,_,i2,i3⟩:=rowF_mem ha y hy
          exact ih x hm (v+1) _ (r2 i (fun h hh hdp=>by rw [c2 h hh hdp];omega)) _ i3
     ·exact fls_ok_of hF ih xs (k+1) b hd2 hb y hy
theorem fl_ok_n (l:List (Form × Int)):∀ (n:Nat) (f:Form),f.w≤n→∀ v hs,zhK l v hs f→∀ y,f.fl hs=some y→FormF y:=by
 intro n
 induction n with
 | zero=>intro f h;have:=f.w_kids;omega
 | succ n ih =>
   intro f hn v hs hF y hy
   have hw:=f.w_kids
   rw [Form.fl_eq] at hy
   obtain ⟨d,hok⟩:=hF.ok
   by_cases h1:f.kind=1
   ·rw [decide_eq_true h1,cond_true] at hy
    cases hy
    unfold findO
    rcases hF.leaf with hl | ⟨i,h,hl,hi,h0,hv⟩
    ·rw [hl,decide_eq_false (by omega),cond_false]
     refine ⟨⟨d,hok⟩,?_⟩
     rw [cnt_eq,(zfn hok).1 (by omega),Form.cnts];omega
    ·rw [hl,decide_eq_true (by omega),cond_true,Int.toNat_natCast,List.getD_eq_getElem?_getD,hi,Option.getD_some]
     unfold Form.valid at hv
     rw [Bool.and_eq_true,decide_eq_true_eq] at hv
     exact ⟨⟨40,hv.1⟩,by omega⟩
   ·rw [decide_eq_false h1,cond_false] at hy
    cases hf:Form.fls f.kids hs with
    | none=>simp [hf] at hy
    | some ys =>
      rw [hf] at hy
      simp only at hy
      cases hc:decide (Form.cnts ys≤400) with
      | false=>rw [hc] at hy;cases hy
      | true =>
        rw [hc,cond_true] at hy
        cases hy
        have hall:=fls_ok_of hF (fun x hx v' hs' hF' y hy=>ih x (by have:=Form.ws_mem hx;omega) v' hs' hF' y hy) f.kids 0 ys (by rw [List.drop_zero]) hf
        obtain ⟨D,hD⟩:=all_isOk (fun y hy=>(hall y hy).ok)
        have hk3:f.kind=3∨ys=[]:=by
         by_cases h3:f.kind=3
         ·exact .inl h3
         ·rw [(zfn hok).1 h3,Form.fls] at hf;cases hf;exact .inr rfl
        refine ⟨⟨D+1,(isOk_node hok h1 hk3 hD).2.2⟩,?_⟩
        have:=of_decide_eq_true hc
        rw [Form.cnt];omega
theorem fl_ok {l:List (Form × Int)} {v:Nat} {hs:List Hit} {f y:Form} (hF:zhK l v hs f) (h:f.fl hs=some y):FormF y:=fl_ok_n l _ f (Nat.le_refl _) v hs hF y h
theorem eachFill_n (h:Hit):∀ (n:Nat) (f:Form) (b:Bool),f.w≤n→Tr (fun m=>za5 m f b h) (b||Form.part h.name f):=by
 intro n
 induction n with
 | zero=>intro f b h;have:=f.w_kids;omega
 | succ n ih =>
   intro f b hn
   have hw:=f.w_kids
   rw [Form.part_eq]
   refine Tr.step (fun m=>by rw [za5]) (Tr.bind (v:=b||same f h.name) ?_ ?_)
   ·refine Tr.eq (fun m=>by unfold zhU;rfl) ?_
    cases b with
    | true=>exact Tr.tt rfl Tr.val
    | false=>exact Tr.ff rfl (Tr.bind (zbP _ _) Tr.val)
   ·have key:=z8 f.kids (fun k zs=>∀ b:Bool,Tr (fun m=>zaE m f h (k:Int) b) (b||Form.parts h.name zs)) ?_ ?_ 0 (Nat.zero_le _) (b||same f h.name)
    ·rw [← Bool.or_assoc];simpa using key
    ·intro b;exact Tr.step (fun m=>by rw [zaE,zN,cond_false,Form.parts,Bool.or_false]) Tr.val
    ·intro k x zs hk hx hd ihk b
     have hm:=Form.ws_mem (List.mem_of_getElem? hx)
     refine Tr.step (fun m=>by rw [zaE,ltN hk,cond_true,zB hx,Option.bind_some,za6]) (Tr.bind (ih x b (by omega)) ?_)
     rw [Form.parts,← Bool.or_assoc]
     exact ihk _
theorem eachFill_tr (h:Hit) (f:Form):Tr (fun m=>za5 m f false h) (Form.part h.name f):=by
 have:=eachFill_n h _ f false (Nat.le_refl _);rwa [Bool.false_or] at this
noncomputable def deepI (x:Form):List Hit→Nat→List Int
 | [],_=>[]
 | h::hs,k=>(bif zd0 x h then [(k:Int)] else [])++deepI x hs (k+1)
section
variable {f:Form} {hs:List Hit}
abbrev outF (f:Form) (acc:List Form):Form:=Form.mk f.kind (⟨#[]⟩:ByteArray) f.n ([]:List Int) acc
def resI (f:Form) (acc:List Form):Option (List Form)→Form × Bool
 | some ys=>bif decide (Form.cnts (acc++ys)≤400) then (outF f (acc++ys),true) else (zci,false)
 | none=>(zci,false)
theorem resI_some {acc ys:List Form}:resI f acc (some ys)=bif decide (Form.cnts (acc++ys)≤400) then (outF f (acc++ys),true) else (zci,false):=rfl
theorem resI_none {acc:List Form} {o:Option (List Form)}:resI f acc (fapp none o)=(zci,false):=by cases o<;>rfl
theorem resI_app {acc a:List Form} {o:Option (List Form)}:resI f acc (fapp (some a) o)=resI f (acc++a) o:=by
 cases o with
 | none=>rfl
 | some b=>unfold resI fapp;simp only [List.append_assoc]
theorem resI_big {acc:List Form} {o:Option (List Form)} (h:400 < Form.cnts acc):resI f acc o=(zci,false):=by
 cases o with
 | none=>rfl
 | some ys =>
   have h2:¬ Form.cnts (acc++ys)≤400:=by rw [zie];omega
   rw [resI_some,decide_eq_false h2];rfl
theorem put_tr {x:Form} {hs':List Hit} (hb:Tr (fun m=>zes m x hs') (match x.fl hs' with
  | some y=>(y,true)
  | none=>(zci,false))) (hy:∀ y,x.fl hs'=some y→FormF y) {acc:List Form} (ha:Form.cnts acc≤400) :
  Tr (fun m=>zeh m x hs' (Form.cnts acc:Int) (outF f acc)) (match x.fl hs' with
   | some y=>(decide (Form.cnts (acc++[y])≤400),(Form.cnts (acc++[y]):Int),outF f (acc++[y]))
   | none=>(false,(Form.cnts acc:Int),outF f acc)):=by
 have hl:=cnts_len acc
 cases hx:x.fl hs' with
 | none =>
   rw [hx] at hb
   exact Tr.step (fun m=>by rw [zeh]) (Tr.bind hb (Tr.eq (fun m=>rfl) Tr.val))
 | some y =>
   rw [hx] at hb
   have hF:=hy y hx
   have hyw:=hF.w
   have hyc:=hF.cnt
   have hcs:Form.cnts (acc++[y])=Form.cnts acc+y.cnt:=by rw [zie,Form.cnts,Form.cnts,Nat.add_zero]
   refine Tr.step (fun m=>by rw [zeh]) (Tr.bind hb ?_)
   dsimp only
   refine Tr.eq (fun m=>by rw [Bool.not_true,cond_false]) (Tr.bind (FormSize_tr y (by omega)) (Tr.chk (decide_eq_true (show (acc.length+1)*80≤140737488355328 by omega)) ?_))
   refine Tr.eq (fun m=>by rw [idx_last,Option.bind_some,zau (by omega),set_end]) ?_
   have e1:(Form.cnts acc:Int)+(y.cnt:Int)=((Form.cnts (acc++[y]):Nat):Int):=by rw [hcs];simp
   rw [e1]
   have e2:decide (((Form.cnts (acc++[y]):Nat):Int)≤400)=decide (Form.cnts (acc++[y])≤400):=by
    rw [Bool.eq_iff_iff,decide_eq_true_iff,decide_eq_true_iff];omega
   rw [e2];exact Tr.val
theorem fill_l9_tr (g7:Int) (x:Form) (g45:Int) (n:Nat) (acc:List Form) (g54:Int) {v:Form × Bool} (hlen:∀ h∈hs,zd0 x h=true→n < h.many.length)
  (hK:Tr (fun m=>zfq m f hs g7 x g45 (deepI x hs 0) (n:Int) f.kind (⟨#[]⟩:ByteArray) f.n ([]:List Int) acc g54 (nthR x n hs)) v) :
  Tr (fun m=>zc4 m f hs g7 x g45 (deepI x hs 0) (n:Int) f.kind (⟨#[]⟩:ByteArray) f.n ([]:List Int) acc g54 0 hs) v:=by
 have key:∀ (zs pre:List Hit),hs=pre++zs→∀ p:Nat,p+(deepI x zs pre.length).length=(deepI x hs 0).length→(deepI x hs 0).drop p=deepI x zs pre.length →
   Tr (fun m=>zc4 m f hs g7 x g45 (deepI x hs 0) (n:Int) f.kind (⟨#[]⟩:ByteArray) f.n ([]:List Int) acc g54 (p:Int) (nthR x n pre++zs)) v:=by
  intro zs
  induction zs with
  | nil =>
    intro pre he p hp hd
    rw [deepI,List.length_nil,Nat.add_zero] at hp
    rw [List.append_nil] at he
    subst he
    rw [List.append_nil]
    exact Tr.step (fun m=>by rw [zc4,hp,zN,cond_false]) hK
  | cons h zs ih =>
    intro pre he p hp hd
    have hgo:hs=(pre++[h])++zs:=by rw [he];simp
    have hnp:(nthR x n pre).length=pre.length:=by unfold nthR;rw [List.length_map]
    rw [deepI] at hp hd
    cases hb:zd0 x h with
    | false =>
      rw [hb,cond_false,List.nil_append] at hp hd
      have:=ih (pre++[h]) hgo p (by simpa using hp) (by simpa using hd)
      have e:nthR x n (pre++[h])++zs=nthR x n pre++h::zs:=by unfold nthR;simp [hb]
      rw [e] at this;exact this
    | true =>
      rw [hb,cond_true,List.singleton_append] at hp hd
      obtain ⟨q1,q2,q3⟩:=zhl hd
      have hhs:hs[pre.length]?=some h:=by rw [he];simp
      have hm:=List.mem_of_getElem? hhs
      have hn:=hlen h hm hb
      have hmn:h.many[n]?=some (h.many.getD n hit0):=by rw [List.getD_eq_getElem?_getD,List.getElem?_eq_getElem hn];rfl
      have hcur:(nthR x n pre++h::zs)[pre.length]?=some h:=by rw [List.getElem?_append_right (by omega),hnp,Nat.sub_self];rfl
      refine Tr.step (fun m=>by rw [zc4,ltN q3,cond_true,zB q1,Option.bind_some,zB hhs,Option.bind_some,zB hmn,Option.bind_some,zB hcur,Option.bind_some,za6]) ?_
      have:=ih (pre++[h]) hgo (p+1) (by simp at hp ⊢;omega) (by simpa using q2)
      have e:nthR x n (pre++[h])++zs=(nthR x n pre++h::zs).set (pre.length:Int).toNat (h.many.getD n hit0):=by
       rw [Int.toNat_natCast,List.set_append_right _ _ (by omega),hnp,Nat.sub_self,List.set_cons_zero]
       unfold nthR;simp [hb]
      rw [e] at this;exact this
 have:=key hs [] rfl 0 (by simp) (by simp)
 simpa [nthR] using this
theorem fill_l7_tr {l:List (Form × Int)} {vv:Nat} (k:Nat) (x:Form) (hk:k < 2 ^ 40) (N:Nat) (hN:N≤400) (hsl:hs.length≤20) (hlen:∀ h∈hs,zd0 x h=true→h.many.length=N)
  (hb:∀ i,i < N→Tr (fun m=>zes m x (nthR x i hs)) (match x.fl (nthR x i hs) with
   | some y=>(y,true)
   | none=>(zci,false))) (hF:∀ i,i < N→zhK l vv (nthR x i hs) x) {o:Option (List Form)}
  (hK:∀ acc,Form.cnts acc≤400→Tr (fun m=>zb7 m f hs ((k+1:Nat):Int) f.kind (⟨#[]⟩:ByteArray) f.n ([]:List Int) acc (Form.cnts acc:Int)) (resI f acc o)) :
  ∀ (j n:Nat),n+j=N→∀ acc,Form.cnts acc≤400→Tr (fun m=>zdM m f hs (k:Int) x (N:Int) (deepI x hs 0) (n:Int) f.kind (⟨#[]⟩:ByteArray) f.n ([]:List Int) acc (Form.cnts acc:Int)) (resI f acc (fapp (rowF (fun i=>x.fl (nthR x i hs)) n j) o)):=by
 intro j
 induction j with
 | zero =>
   intro n hn acc ha
   have:n=N:=by omega
   subst this
   rw [rowF,resI_app,List.append_nil]
   exact Tr.step (fun m=>by rw [zdM,zN,cond_false,zau (by omega),za6]) (hK acc ha)
 | succ j ih =>
   intro n hn acc ha
   have hnN:n < N:=by omega
   refine Tr.step (fun m=>by rw [zdM,ltN hnN,cond_true]) ?_
   refine Tr.bind (v:=hs) (Tr.eq (fun m=>by unfold zfz;rfl) (Tr.chk (decide_eq_true (by simp;omega)) Tr.val)) ?_
   refine fill_l9_tr (k:Int) x (N:Int) n acc (Form.cnts acc:Int) (fun h hh hd=>by rw [hlen h hh hd];exact hnN) ?_
   refine Tr.step (fun m=>by rw [zfq]) (Tr.bind (put_tr (hb n hnN) (fun y hy=>fl_ok (hF n hnN) hy) ha) ?_)
   cases hx:x.fl (nthR x n hs) with
   | none =>
     have e:rowF (fun i=>x.fl (nthR x i hs)) n (j+1)=none:=by rw [rowF];simp only [hx]
     rw [e,resI_none];exact Tr.tt rfl Tr.val
   | some y =>
     have e:resI f acc (fapp (rowF (fun i=>x.fl (nthR x i hs)) n (j+1)) o)=resI f (acc++[y]) (fapp (rowF (fun i=>x.fl (nthR x i hs)) (n+1) j) o):=by
      rw [rowF]
      simp only [hx]
      cases rowF (fun i=>x.fl (nthR x i hs)) (n+1) j with
      | none=>simp only [resI_none]
      | some ys=>simp only [resI_app,List.append_assoc,List.singleton_append]
     rw [e]
     dsimp only
     by_cases hc:Form.cnts (acc++[y])≤400
     ·rw [decide_eq_true hc]
      refine Tr.ff rfl (Tr.eq (fun m=>by rw [zau (by omega),za6];rfl) (ih (n+1) (by omega) (acc++[y]) hc))
     ·rw [decide_eq_false hc,resI_big (by omega)]
      exact Tr.tt rfl Tr.val
theorem fill_l4_tr (k:Nat) (x:Form) (acc:List Form) (hsl:hs.length≤20) (hok:∀ h∈hs,h.isOk=true) {v:Form × Bool} (R:Int→Form × Bool)
  (hK:∀ N:Int,cntR x (-1) hs=some N→Tr (fun m=>zfr m f hs (k:Int) f.kind (⟨#[]⟩:ByteArray) f.n ([]:List Int) acc (Form.cnts acc:Int) x N (deepI x hs 0)) (R N)) :
  Tr (fun m=>zcq m f hs (k:Int) f.kind (⟨#[]⟩:ByteArray) f.n ([]:List Int) acc (Form.cnts acc:Int) x 0 ([]:List Int) (-1)) (match cntR x (-1) hs with
   | none=>(zci,false)
   | some N=>R N):=by
 have key:=z8 hs (fun j zs=>∀ (ds:List Int) (n:Int),ds++deepI x zs j=deepI x hs 0→cntR x n zs=cntR x (-1) hs→ds.length≤j→Tr (fun m=>zcq m f hs (k:Int) f.kind (⟨#[]⟩:ByteArray) f.n ([]:List Int) acc (Form.cnts acc:Int) x (j:Int) ds n) (match cntR x (-1) hs with
   | none=>(zci,false)
   | some N=>R N)) ?_ ?_ 0 (Nat.zero_le _) [] (-1) (by simp) (by simp) (Nat.le_refl _)
 ·exact key
 ·intro ds n h1 h2 _
  rw [deepI,List.append_nil] at h1
  rw [cntR] at h2
  have hk:=hK n h2.symm
  rw [← h2,h1]
  exact Tr.step (fun m=>by rw [zcq,zN,cond_false]) hk
 ·intro j h zs hj hx hd ih ds n h1 h2 hl
  have hm:=List.mem_of_getElem? hx
  refine Tr.step (fun m=>by rw [zcq,ltN hj,cond_true,zB hx,Option.bind_some]) (Tr.bind (eachFill_tr h x) ?_)
  rw [deepI] at h1
  rw [cntR] at h2
  have e:Tr (fun m=>zdO m f hs (k:Int) f.kind (⟨#[]⟩:ByteArray) f.n ([]:List Int) acc (Form.cnts acc:Int) x (j:Int) ds n h (!zd0 x h)) (match cntR x (-1) hs with
   | none=>(zci,false)
   | some N=>R N):=by
   cases hb:zd0 x h with
   | false =>
     rw [hb,cond_false,List.nil_append] at h1
     rw [hb,cond_false] at h2
     exact Tr.step (fun m=>by rw [zdO,Bool.not_false,cond_true,za6]) (ih ds n h1 h2 (by omega))
   | true =>
     rw [hb,cond_true] at h1 h2
     refine Tr.step (fun m=>by rw [zdO,Bool.not_true,cond_false]) (Tr.chk (decide_eq_true (by simp;omega)) ?_)
     have j6:∀ b:Bool,(decide (0≤n)&&decide (n≠(h.many.length:Int)))=b→Tr (fun m=>zdN m f hs (k:Int) f.kind (⟨#[]⟩:ByteArray) f.n ([]:List Int) acc (Form.cnts acc:Int) x (j:Int) ds h b) (match cntR x (-1) hs with
      | none=>(zci,false)
      | some N=>R N):=by
      intro b hbb
      rw [hbb] at h2
      cases b with
      | true =>
        rw [cond_true] at h2
        rw [← h2]
        exact Tr.step (fun m=>by rw [zdN,cond_true]) Tr.val
      | false =>
        rw [cond_false] at h2
        exact Tr.step (fun m=>by rw [zdN,cond_false,za6]) (ih (ds++[(j:Int)]) _ (by rw [List.append_assoc];exact h1) h2 (by simp;omega))
     by_cases hn:0≤n
     ·exact Tr.tt (decide_eq_true hn) (j6 _ (by rw [decide_eq_true hn,Bool.true_and]))
     ·exact Tr.ff (decide_eq_false hn) (j6 _ (by rw [decide_eq_false hn,Bool.false_and]))
  unfold zd0 at e
  cases hp:Form.part h.name x with
  | false =>
    rw [hp,Bool.false_and,Bool.not_false] at e
    exact Tr.tt rfl e
  | true =>
    rw [hp,Bool.true_and,Bool.not_not] at e
    exact Tr.ff rfl e
theorem fill_l1_tr {l:List (Form × Int)} {v:Nat} (hF:zhK l v hs f) (hw:f.w≤2 ^ 30) (ih:∀ x∈f.kids,∀ v' hs',zhK l v' hs' x→Tr (fun m=>zes m x hs') (match x.fl hs' with
  | some y=>(y,true)
  | none=>(zci,false))):∀ (rest:List Form) (k:Nat) (acc:List Form),f.kids.drop k=rest→k≤f.kids.length→Form.cnts acc≤400 →
  Tr (fun m=>zb7 m f hs (k:Int) f.kind (⟨#[]⟩:ByteArray) f.n ([]:List Int) acc (Form.cnts acc:Int)) (resI f acc (Form.fls rest hs))
 | [],k,acc,hd,hk,ha=>by
   have:k=f.kids.length:=by have:=congrArg List.length hd;rw [List.length_drop] at this;simp at this;omega
   subst this
   rw [Form.fls,resI_some,List.append_nil,decide_eq_true ha,cond_true]
   exact Tr.step (fun m=>by rw [zb7,zN,cond_false]) Tr.val
 | x::xs,k,acc,hd,hk,ha=>by
   obtain ⟨hx,hd2,hlt⟩:=zhl hd
   have hm:=List.mem_of_getElem? hx
   have hfw:=f.w_kids
   have hkl:=Form.ws_len f.kids
   refine Tr.step (fun m=>by rw [zb7,ltN hlt,cond_true,zB hx,Option.bind_some]) (Tr.bind (zgU x _) ?_)
   rw [Form.fls_eq]
   have hgo:=fill_l1_tr hF hw ih xs (k+1) 
   cases hdx:zE x with
   | true =>
     rw [cond_true]
     exact Tr.tt hdx (Tr.eq (fun m=>by rw [za6]) (hgo acc hd2 hlt ha))
   | false =>
     rw [cond_false]
     refine Tr.ff hdx ?_
     have one:zbU xs=false→Tr (fun m=>zb8 m f hs (k:Int) f.kind (⟨#[]⟩:ByteArray) f.n ([]:List Int) acc (Form.cnts acc:Int) x true) (resI f acc (fapp (match x.fl hs with
       | none=>none
       | some y=>some [y]) (Form.fls xs hs))):=by
      intro hn
      have hFx:=hF.kid hx hdx (by rw [hd2];exact hn)
      refine Tr.step (fun m=>by rw [zb8,cond_true]) (Tr.bind (put_tr (ih x hm v hs hFx) (fun y hy=>fl_ok hFx hy) ha) ?_)
      cases hxf:x.fl hs with
      | none=>rw [resI_none];exact Tr.tt rfl Tr.val
      | some y =>
        simp only
        rw [resI_app]
        by_cases hc:Form.cnts (acc++[y])≤400
        ·rw [decide_eq_true hc]
         exact Tr.ff rfl (Tr.eq (fun m=>by rw [za6];rfl) (hgo (acc++[y]) hd2 hlt hc))
        ·rw [decide_eq_false hc,resI_big (by omega)]
         exact Tr.tt rfl Tr.val
     rcases next_get hd with ⟨hz,hl⟩ | ⟨y,ys,hz,hy,hl⟩
     ·subst hz
      rw [show zbU ([]:List Form)=false from rfl,cond_false]
      exact Tr.tt (decide_eq_true (by omega)) (one rfl)
     ·refine Tr.ff (decide_eq_false (by omega)) (Tr.eq (fun m=>by rw [za6,zB hy,Option.bind_some]) (Tr.bind (zgU y _) ?_))
      have hnx:zbU xs=zE y:=by rw [hz];rfl
      cases hdy:zE y with
      | false =>
        rw [hnx,hdy,cond_false]
        have:=one (by rw [hnx,hdy])
        refine Tr.eq (fun m=>?_) this
        show zb8 m f hs _ _ _ _ _ _ _ x (!zE y)=_
        rw [hdy];rfl
      | true =>
        rw [hnx,hdy,cond_true]
        obtain ⟨r1,r2⟩:=hF.row hx hdx (by rw [hd2,hnx,hdy])
        obtain ⟨hall,hsl⟩:=zit hF.hv
        refine Tr.eq (G:=fun m=>zb8 m f hs (k:Int) f.kind (⟨#[]⟩:ByteArray) f.n ([]:List Int) acc (Form.cnts acc:Int) x false) (fun m=>?_) ?_
        ·show zb8 m f hs _ _ _ _ _ _ _ x (!zE y)=_
         rw [hdy];rfl
        refine Tr.step (fun m=>by rw [zb8,cond_false]) ?_
        have h4:=fill_l4_tr (f:=f) (hs:=hs) k x acc hsl hall (v:=(zci,false)) (fun N=>resI f acc (fapp (rowF (fun i=>x.fl (nthR x i hs)) 0 N.toNat) (Form.fls xs hs))) (fun N hN=>by
         obtain ⟨c0,c1,c2⟩:=cntR_lt hF.hv r1 hN
         have hFi:∀ i,i < N.toNat→zhK l (v+1) (nthR x i hs) x:=fun i hi=>r2 i (fun h hh hdp=>by rw [c2 h hh hdp];exact hi)
         have:=fill_l7_tr (f:=f) (hs:=hs) k x (by omega) N.toNat (by omega) hsl c2 (fun i hi=>ih x hm (v+1) _ (hFi i hi)) hFi (o:=Form.fls xs hs) (fun acc' ha'=>hgo acc' hd2 hlt ha') N.toNat 0 (by omega) acc ha
         rw [Int.toNat_of_nonneg c0] at this
         exact Tr.step (fun m=>by rw [zfr];rfl) this)
        cases hc:cntR x (-1) hs with
        | none=>rw [hc] at h4;rw [resI_none];exact h4
        | some N=>rw [hc] at h4;exact h4
end
theorem implFill_n (l:List (Form × Int)):∀ (n:Nat) (f:Form),f.w≤n→f.w≤2 ^ 30→∀ v hs,zhK l v hs f→Tr (fun m=>zes m f hs) (match f.fl hs with
  | some y=>(y,true)
  | none=>(zci,false)):=by
 intro n
 induction n with
 | zero=>intro f h;have:=f.w_kids;omega
 | succ n ih =>
   intro f hn hw v hs hF
   have hfw:=f.w_kids
   rw [Form.fl_eq]
   refine Tr.step (fun m=>by rw [zes]) ?_
   obtain ⟨d,hok⟩:=hF.ok
   by_cases h1:f.kind=1
   ·rw [decide_eq_true h1,cond_true]
    refine Tr.tt rfl (Tr.bind (hitAt_tr hs f) ?_)
    unfold findO
    rcases hF.leaf with hl | ⟨i,h,hl,hi,h0,hv⟩
    ·rw [hl]
     exact Tr.ff rfl (Tr.bind (zhm f (by omega)) Tr.val)
    ·rw [hl,decide_eq_true (by omega),cond_true,Int.toNat_natCast,List.getD_eq_getElem?_getD,hi,Option.getD_some]
     have:=zix hv
     exact Tr.tt rfl (Tr.eq (fun m=>by rw [zB hi,Option.bind_some]) (Tr.bind (zhm h.one (by omega)) Tr.val))
   ·rw [decide_eq_false h1,cond_false]
    refine Tr.ff rfl ?_
    have:=fill_l1_tr hF hw (fun x hx v' hs' hF'=>ih x (by have:=Form.ws_mem hx;omega) (by have:=Form.ws_mem hx;omega) v' hs' hF') f.kids 0 [] (by rw [List.drop_zero]) (Nat.zero_le _) (by rw [Form.cnts];omega)
    obtain ⟨e1,e2,_⟩:=isOk_node (ys:=[]) hok h1 (.inr rfl) (D:=0) (fun y hy=>by cases hy)
    cases hf:Form.fls f.kids hs with
    | none=>rw [hf] at this;exact this
    | some ys =>
      rw [hf] at this
      rw [resI_some,List.nil_append] at this
      simp only
      rw [e1,e2]
      cases hc:decide (Form.cnts ys≤400) with
      | true=>rw [hc,cond_true] at this;rw [cond_true];exact this
      | false=>rw [hc,cond_false] at this;rw [cond_false];exact this
end Go.Abs
end
section
set_option linter.unusedVariables false
set_option linter.unusedSimpArgs false
namespace Go.Abs
theorem uses_n (nm:Form) (hnm:nm.kind=1):∀ (n:Nat) (f:Form),f.w≤n→Tr (fun m=>zee m f nm) (Form.part nm f):=by
 intro n
 induction n with
 | zero=>intro f h;have:=f.w_kids;omega
 | succ n ih =>
   intro f hn
   have hw:=f.w_kids
   rw [Form.part_eq]
   have kids:Tr (fun m=>zdo m f nm) (Form.parts nm f.kids):=by
    refine Tr.step (fun m=>by rw [zdo]) ?_
    have key:=z8 f.kids (fun k zs=>Tr (fun m=>zcA m f nm (k:Int)) (Form.parts nm zs)) ?_ ?_ 0 (Nat.zero_le _)
    ·exact key
    ·exact Tr.step (fun m=>by rw [zcA,zN,cond_false,Form.parts]) Tr.val
    ·intro k x zs hk hx hd ihk
     have hm:=Form.ws_mem (List.mem_of_getElem? hx)
     refine Tr.step (fun m=>by rw [zcA,ltN hk,cond_true,zB hx,Option.bind_some,za6]) (Tr.bind (ih x (by omega)) ?_)
     rw [Form.parts]
     cases Form.part nm x with
     | true=>exact Tr.tt rfl Tr.val
     | false=>exact Tr.ff rfl ihk
   refine Tr.step (fun m=>by rw [zee]) ?_
   by_cases h1:f.kind=1
   ·refine Tr.tt (decide_eq_true h1) (Tr.bind (zfG f nm) ?_)
    cases same f nm with
    | true=>exact Tr.tt rfl Tr.val
    | false=>exact Tr.ff rfl kids
   ·have hs:same f nm=false:=same_ne (fun e=>h1 (e ▸ hnm))
    rw [hs,Bool.false_or]
    exact Tr.ff (decide_eq_false h1) kids
theorem hit_kind {h:Hit} (hk:h.isOk=true):h.name.kind=1:=by
 have hn:=(zis hk).1
 unfold isNm at hn
 rw [Bool.and_eq_true,decide_eq_true_eq] at hn
 exact hn.1
theorem deepB_pos {x:Form} {h:Hit} (hk:h.isOk=true):zd0 x h=(decide (0 < h.depth)&&Form.part h.name x):=by
 have:=(zis hk).2.1.1
 unfold zd0
 by_cases h0:h.depth=0
 ·rw [decide_eq_true h0,decide_eq_false (by omega)];simp
 ·rw [decide_eq_false h0,decide_eq_true (by omega)];simp
section
variable {hs:List Hit}
theorem count_tr (x:Form) (hok:∀ h∈hs,h.isOk=true):Tr (fun m=>zgb m x hs) (match cntR x (-1) hs with
  | none=>-1
  | some N=>N):=by
 refine Tr.eq (fun m=>by unfold zgb;rfl) ?_
 have key:=z8 hs (fun j zs=>∀ n:Int,cntR x n zs=cntR x (-1) hs→Tr (fun m=>zbW m x hs (j:Int) n) (match cntR x (-1) hs with
  | none=>-1
  | some N=>N)) ?_ ?_ 0 (Nat.zero_le _) (-1) (by rw [List.drop_zero])
 ·exact key
 ·intro n h2
  rw [cntR] at h2
  rw [← h2]
  exact Tr.step (fun m=>by rw [zbW,zN,cond_false]) Tr.val
 ·intro j h zs hj hx hd ih n h2
  have hm:=List.mem_of_getElem? hx
  rw [cntR] at h2
  have j2:Tr (fun m=>zcl m x hs (j:Int) n (!zd0 x h)) (match cntR x (-1) hs with
   | none=>-1
   | some N=>N):=by
   cases hb:zd0 x h with
   | false =>
     rw [hb,cond_false] at h2
     exact Tr.step (fun m=>by rw [zcl,Bool.not_false,cond_true,za6]) (ih n h2)
   | true =>
     rw [hb,cond_true] at h2
     have j3:(decide (0≤n)&&decide (n≠(h.many.length:Int)))=false→Tr (fun m=>zcQ m x hs (j:Int)) (match cntR x (-1) hs with
      | none=>-1
      | some N=>N):=fun hc=>by
      rw [hc,cond_false] at h2
      exact Tr.step (fun m=>by rw [zcQ,zB hx,Option.bind_some,za6]) (ih _ h2)
     refine Tr.step (fun m=>by rw [zcl,Bool.not_true,cond_false]) ?_
     by_cases hn:0≤n
     ·refine Tr.tt (decide_eq_true hn) (Tr.eq (fun m=>by rw [zB hx,Option.bind_some]) ?_)
      by_cases hne:n=(h.many.length:Int)
      ·have hcc:decide (n≠(h.many.length:Int))=false:=decide_eq_false (fun hh=>hh hne)
       exact Tr.ff hcc (j3 (by rw [hcc,Bool.and_false]))
      ·rw [decide_eq_true hn,decide_eq_true (by exact hne),Bool.and_self,cond_true] at h2
       rw [← h2]
       exact Tr.tt (decide_eq_true (by exact hne)) Tr.val
     ·exact Tr.ff (decide_eq_false hn) (j3 (by rw [decide_eq_false hn,Bool.false_and]))
  refine Tr.step (fun m=>by rw [zbW,ltN hj,cond_true,zB hx,Option.bind_some]) ?_
  by_cases h0:h.depth=0
  ·have:zd0 x h=false:=by unfold zd0;rw [decide_eq_true h0];simp
   rw [this] at j2
   exact Tr.tt (decide_eq_true h0) j2
  ·have:zd0 x h=Form.part h.name x:=by unfold zd0;rw [decide_eq_false h0];simp
   rw [this] at j2
   exact Tr.ff (decide_eq_false h0) (Tr.eq (fun m=>by rw [Option.bind_some]) (Tr.bind (uses_n h.name (hit_kind (hok h hm)) _ x (Nat.le_refl _)) j2))
theorem nth_tr (x:Form) (n:Nat) (hok:∀ h∈hs,h.isOk=true) (hsl:hs.length≤20) (hlen:∀ h∈hs,zd0 x h=true→n < h.many.length):Tr (fun m=>zgL m x hs (n:Int)) (nthR x n hs):=by
 refine Tr.eq (fun m=>by unfold zgL;rfl) ?_
 have key:=z8 hs (fun j zs=>∀ g:List Hit,g.length=j→g++nthR x n zs=nthR x n hs→Tr (fun m=>zcr m x hs (n:Int) g (j:Int)) (nthR x n hs)) ?_ ?_ 0 (Nat.zero_le _) [] rfl (by rw [List.drop_zero,List.nil_append])
 ·exact key
 ·intro g hg he
  have:nthR x n []=[]:=rfl
  rw [this,List.append_nil] at he
  rw [← he]
  exact Tr.step (fun m=>by rw [zcr,zN,cond_false]) Tr.val
 ·intro j h zs hj hx hd ih g hg he
  have hm:=List.mem_of_getElem? hx
  have he':(g++[bif zd0 x h then h.many.getD n hit0 else h])++nthR x n zs=nthR x n hs:=by rw [← he,List.append_assoc];rfl
  have j2:Tr (fun m=>zc7 m x hs (n:Int) g (j:Int) h (zd0 x h)) (nthR x n hs):=by
   cases hb:zd0 x h with
   | true =>
     rw [hb,cond_true] at he'
     have hn:=hlen h hm hb
     have hmn:h.many[n]?=some (h.many.getD n hit0):=by rw [List.getD_eq_getElem?_getD,List.getElem?_eq_getElem hn];rfl
     refine Tr.step (fun m=>by rw [zc7,cond_true,zB hmn,Option.bind_some]) (Tr.chk (decide_eq_true (by simp;omega)) ?_)
     exact Tr.eq (fun m=>by rw [za6]) (ih _ (by simp [hg]) he')
   | false =>
     rw [hb,cond_false] at he'
     refine Tr.step (fun m=>by rw [zc7,cond_false]) (Tr.chk (decide_eq_true (by simp;omega)) ?_)
     exact Tr.eq (fun m=>by rw [za6]) (ih _ (by simp [hg]) he')
  refine Tr.step (fun m=>by rw [zcr,ltN hj,cond_true,zB hx,Option.bind_some]) ?_
  rw [deepB_pos (hok h hm)] at j2
  cases h0:decide (0 < h.depth) with
  | true =>
    rw [h0,Bool.true_and] at j2
    exact Tr.tt rfl (Tr.bind (uses_n h.name (hit_kind (hok h hm)) _ x (Nat.le_refl _)) j2)
  | false =>
    rw [h0,Bool.false_and] at j2
    exact Tr.ff rfl j2
end
section
variable {f:Form} {hs:List Hit}
def resS (f:Form) (acc:List Form):Option (List Form)→Form × Bool
 | some ys=>bif decide (Form.cnts (acc++ys)≤400) then (Form.mk f.kind f.name f.n f.scopes (acc++ys),true) else (f,false)
 | none=>(f,false)
theorem resS_some {acc ys:List Form}:resS f acc (some ys)=bif decide (Form.cnts (acc++ys)≤400) then (Form.mk f.kind f.name f.n f.scopes (acc++ys),true) else (f,false):=rfl
theorem resS_none {acc:List Form} {o:Option (List Form)}:resS f acc (fapp none o)=(f,false):=by cases o<;>rfl
theorem resS_app {acc a:List Form} {o:Option (List Form)}:resS f acc (fapp (some a) o)=resS f (acc++a) o:=by
 cases o with
 | none=>rfl
 | some b=>unfold resS fapp;simp only [List.append_assoc]
theorem resS_big {acc:List Form} {o:Option (List Form)} (h:400 < Form.cnts acc):resS f acc o=(f,false):=by
 cases o with
 | none=>rfl
 | some ys =>
   have h2:¬ Form.cnts (acc++ys)≤400:=by rw [zie];omega
   rw [resS_some,decide_eq_false h2];rfl
theorem sfill_l5_tr {l:List (Form × Int)} {vv:Nat} (k:Nat) (x:Form) (hx:f.kids[k]?=some x) (hk:k < 2 ^ 40) (row:Bool) (D:Nat→List Hit) (N:Nat) (hN:N≤400) (hw:x.w≤2 ^ 30)
  (hD:∀ i,i < N→bif row then Tr (fun m=>zgL m x hs (i:Int)) (D i) else D i=hs)
  (hb:∀ i,i < N→Tr (fun m=>zdB m x (D i)) (match x.fl (D i) with
   | some y=>(y,true)
   | none=>(x,false))) (hF:∀ i,i < N→zhK l vv (D i) x) {o:Option (List Form)}
  (hK:∀ acc,Form.cnts acc≤400→Tr (fun m=>zbR m f hs ((k+1:Nat):Int) (Form.cnts acc:Int) acc) (resS f acc o)) :
  ∀ (j n:Nat),n+j=N→∀ acc,Form.cnts acc≤400→Tr (fun m=>zcC m f hs (k:Int) row (N:Int) (Form.cnts acc:Int) (n:Int) acc) (resS f acc (fapp (rowF (fun i=>x.fl (D i)) n j) o)):=by
 intro j
 induction j with
 | zero =>
   intro n hn acc ha
   have:n=N:=by omega
   subst this
   rw [rowF,resS_app,List.append_nil]
   exact Tr.step (fun m=>by rw [zcC,zN,cond_false,zau (by omega),za6]) (hK acc ha)
 | succ j ih =>
   intro n hn acc ha
   have hnN:n < N:=by omega
   have hcl:=cnts_len acc
   have j6:Tr (fun m=>zdp m f hs (k:Int) row (N:Int) (Form.cnts acc:Int) (n:Int) acc (D n)) (resS f acc (fapp (rowF (fun i=>x.fl (D i)) n (j+1)) o)):=by
    have hbn:=hb n hnN
    refine Tr.step (fun m=>by rw [zdp,zB hx,Option.bind_some]) (Tr.bind hbn ?_)
    cases hxf:x.fl (D n) with
    | none =>
      have e:rowF (fun i=>x.fl (D i)) n (j+1)=none:=by rw [rowF];simp only [hxf]
      rw [e,resS_none]
      dsimp only
      refine Tr.bind (l1Count_n _ x (Nat.le_refl _) (by omega)) ?_
      exact Tr.eq (fun m=>by rw [Bool.not_false,cond_true]) (Tr.step (fun m=>by rw [zcD,cond_true]) Tr.val)
    | some y =>
      have hFy:=fl_ok (hF n hnN) hxf
      have hyw:=hFy.w
      have hyc:=hFy.cnt
      have e:resS f acc (fapp (rowF (fun i=>x.fl (D i)) n (j+1)) o)=resS f (acc++[y]) (fapp (rowF (fun i=>x.fl (D i)) (n+1) j) o):=by
       rw [rowF]
       simp only [hxf]
       cases rowF (fun i=>x.fl (D i)) (n+1) j with
       | none=>simp only [resS_none]
       | some ys=>simp only [resS_app,List.append_assoc,List.singleton_append]
      rw [e]
      dsimp only
      have hcs:Form.cnts (acc++[y])=Form.cnts acc+y.cnt:=by rw [zie,Form.cnts,Form.cnts,Nat.add_zero]
      have e1:(Form.cnts acc:Int)+(y.cnt:Int)=((Form.cnts (acc++[y]):Nat):Int):=by rw [hcs];simp
      refine Tr.bind (l1Count_n _ y (Nat.le_refl _) (by omega)) (Tr.eq (fun m=>by rw [Bool.not_true,cond_false,zau (by omega),e1]) ?_)
      by_cases hc:Form.cnts (acc++[y])≤400
      ·refine Tr.step (fun m=>by rw [zcD,decide_eq_false (show ¬ (400:Int) < ((Form.cnts (acc++[y]):Nat):Int) by omega),cond_false]) ?_
       refine Tr.chk (decide_eq_true (by simp;omega)) ?_
       exact Tr.eq (fun m=>by rw [zau (by omega),zau (by omega),e1,za6]) (ih (n+1) (by omega) (acc++[y]) hc)
      ·rw [resS_big (by omega)]
       exact Tr.step (fun m=>by rw [zcD,decide_eq_true (show (400:Int) < ((Form.cnts (acc++[y]):Nat):Int) by omega),cond_true]) Tr.val
   have hDn:=hD n hnN
   refine Tr.step (fun m=>by rw [zcC,ltN hnN,cond_true]) ?_
   cases row with
   | true=>exact Tr.tt rfl (Tr.eq (fun m=>by rw [zB hx,Option.bind_some]) (Tr.bind hDn j6))
   | false =>
     rw [cond_false] at hDn
     rw [hDn] at j6
     exact Tr.ff rfl j6
theorem sfill_l2_tr {l:List (Form × Int)} {v:Nat} (hF:zhK l v hs f) (hw:f.w≤2 ^ 30) (ih:∀ x∈f.kids,∀ v' hs',zhK l v' hs' x→Tr (fun m=>zdB m x hs') (match x.fl hs' with
  | some y=>(y,true)
  | none=>(x,false))):∀ (rest:List Form) (k:Nat) (acc:List Form),f.kids.drop k=rest→k≤f.kids.length→Form.cnts acc≤400 →
  Tr (fun m=>zbR m f hs (k:Int) (Form.cnts acc:Int) acc) (resS f acc (Form.fls rest hs))
 | [],k,acc,hd,hk,ha=>by
   have:k=f.kids.length:=by have:=congrArg List.length hd;rw [List.length_drop] at this;simp at this;omega
   subst this
   rw [Form.fls,resS_some,List.append_nil,decide_eq_true ha,cond_true]
   exact Tr.step (fun m=>by rw [zbR,zN,cond_false,List.nil_append]) Tr.val
 | x::xs,k,acc,hd,hk,ha=>by
   obtain ⟨hx,hd2,hlt⟩:=zhl hd
   have hm:=List.mem_of_getElem? hx
   have hfw:=f.w_kids
   have hxw:=Form.ws_mem hm
   have hkl:=Form.ws_len f.kids
   refine Tr.step (fun m=>by rw [zbR,ltN hlt,cond_true,zB hx,Option.bind_some]) (Tr.bind (zfm x) ?_)
   rw [Form.fls_eq]
   have hgo:=fun acc=>sfill_l2_tr hF hw ih xs (k+1) acc hd2 hlt
   cases hdx:zE x with
   | true =>
     rw [cond_true]
     exact Tr.tt rfl (Tr.eq (fun m=>by rw [za6]) (hgo acc ha))
   | false =>
     rw [cond_false]
     refine Tr.ff rfl ?_
     have one:zbU xs=false→Tr (fun m=>zcF m f hs (k:Int) (Form.cnts acc:Int) acc false) (resS f acc (fapp (match x.fl hs with
       | none=>none
       | some y=>some [y]) (Form.fls xs hs))):=by
      intro hn
      have hFx:=hF.kid hx hdx (by rw [hd2];exact hn)
      refine Tr.step (fun m=>by rw [zcF,cond_false]) (Tr.step (fun m=>by rw [zcE,decide_eq_false (by omega),cond_false]) ?_)
      have:=sfill_l5_tr (f:=f) (hs:=hs) k x hx (by omega) false (fun _=>hs) 1 (by omega) (by omega) (fun i _=>rfl) (fun i _=>ih x hm v hs hFx) (fun i _=>hFx) (o:=Form.fls xs hs) (fun acc' ha'=>hgo acc' ha') 1 0 rfl acc ha
      have e:rowF (fun _:Nat=>x.fl hs) 0 1=(match x.fl hs with
       | none=>none
       | some y=>some [y]):=by
       cases hxf:x.fl hs with
       | none=>simp only [rowF,hxf]
       | some y=>simp only [rowF,hxf]
      rw [e] at this
      exact this
     rcases next_get hd with ⟨hz,hl⟩ | ⟨y,ys,hz,hy,hl⟩
     ·subst hz
      rw [show zbU ([]:List Form)=false from rfl,cond_false]
      exact Tr.ff (decide_eq_false (by omega)) (one rfl)
     ·refine Tr.tt (decide_eq_true (by omega)) (Tr.eq (fun m=>by rw [za6,zB hy,Option.bind_some]) (Tr.bind (zfm y) ?_))
      have hnx:zbU xs=zE y:=by rw [hz];rfl
      cases hdy:zE y with
      | false =>
        rw [hnx,hdy,cond_false]
        exact one (by rw [hnx,hdy])
      | true =>
        rw [hnx,hdy,cond_true]
        obtain ⟨r1,r2⟩:=hF.row hx hdx (by rw [hd2,hnx,hdy])
        obtain ⟨hall,hsl⟩:=zit hF.hv
        refine Tr.step (fun m=>by rw [zcF,cond_true,zB hx,Option.bind_some]) (Tr.bind (count_tr x hall) ?_)
        cases hc:cntR x (-1) hs with
        | none =>
          rw [resS_none]
          exact Tr.step (fun m=>by rw [zcE];rfl) Tr.val
        | some N =>
          obtain ⟨c0,c1,c2⟩:=cntR_lt hF.hv r1 hc
          have hFi:∀ i,i < N.toNat→zhK l (v+1) (nthR x i hs) x:=fun i hi=>r2 i (fun h hh hdp=>by rw [c2 h hh hdp];exact hi)
          refine Tr.step (fun m=>by rw [zcE,decide_eq_false (show ¬ N < 0 by omega),cond_false]) ?_
          have:=sfill_l5_tr (f:=f) (hs:=hs) k x hx (by omega) true (fun i=>nthR x i hs) N.toNat (by omega) (by omega) (fun i hi=>nth_tr x i hall hsl (fun h hh hdp=>by rw [c2 h hh hdp];exact hi)) (fun i hi=>ih x hm (v+1) _ (hFi i hi)) hFi (o:=Form.fls xs hs) (fun acc' ha'=>hgo acc' ha') N.toNat 0 (by omega) acc ha
          rw [Int.toNat_of_nonneg c0] at this
          exact this
end
theorem specFill_n (l:List (Form × Int)):∀ (n:Nat) (f:Form),f.w≤n→f.w≤2 ^ 30→∀ v hs,zhK l v hs f→Tr (fun m=>zdB m f hs) (match f.fl hs with
  | some y=>(y,true)
  | none=>(f,false)):=by
 intro n
 induction n with
 | zero=>intro f h;have:=f.w_kids;omega
 | succ n ih =>
   intro f hn hw v hs hF
   have hfw:=f.w_kids
   rw [Form.fl_eq]
   obtain ⟨d,hok⟩:=hF.ok
   have rest:Tr (fun m=>zcG m f hs (-1)) (match (match Form.fls f.kids hs with
     | none=>none
     | some ys=>bif decide (Form.cnts ys≤400) then some (Form.mk f.kind f.name f.n f.scopes ys) else none) with
    | some y=>(y,true)
    | none=>(f,false)):=by
    refine Tr.step (fun m=>by rw [zcG,decide_eq_false (by omega),cond_false]) ?_
    refine Tr.chk (decide_eq_true (by simp;omega)) ?_
    have:=sfill_l2_tr hF hw (fun x hx v' hs' hF'=>ih x (by have:=Form.ws_mem hx;omega) (by have:=Form.ws_mem hx;omega) v' hs' hF') f.kids 0 [] (by rw [List.drop_zero]) (Nat.zero_le _) (by rw [Form.cnts];omega)
    cases hf:Form.fls f.kids hs with
    | none=>rw [hf] at this;exact this
    | some ys =>
      rw [hf,resS_some,List.nil_append] at this
      simp only
      cases hc:decide (Form.cnts ys≤400) with
      | true=>rw [hc,cond_true] at this;rw [cond_true];exact this
      | false=>rw [hc,cond_false] at this;rw [cond_false];exact this
   refine Tr.step (fun m=>by rw [zdB]) ?_
   by_cases h1:f.kind=1
   ·rw [decide_eq_true h1,cond_true]
    refine Tr.tt rfl (Tr.bind (l4Find_tr hs f) ?_)
    unfold findO
    rcases hF.leaf with hl | ⟨i,h,hl,hi,h0,hv⟩
    ·rw [hl,decide_eq_false (by omega),cond_false]
     have hk:f.kids=[]:=(zfn hok).1 (by omega)
     have e:Form.mk f.kind f.name f.n f.scopes []=f:=by
      obtain ⟨a,b,c,dd,ee⟩:=f
      replace hk:ee=[]:=hk
      subst hk;rfl
     have e3:decide (Form.cnts []≤400)=true:=decide_eq_true (by rw [Form.cnts];omega)
     have e2:(match Form.fls f.kids hs with
      | none=>none
      | some ys=>bif decide (Form.cnts ys≤400) then some (Form.mk f.kind f.name f.n f.scopes ys) else none)=some f:=by
      rw [hk,Form.fls]
      simp only
      rw [e3,cond_true,e]
     rw [e2] at rest
     exact rest
    ·rw [hl,decide_eq_true (by omega),cond_true,Int.toNat_natCast,List.getD_eq_getElem?_getD,hi,Option.getD_some]
     have:=zix hv
     refine Tr.step (fun m=>by rw [zcG,decide_eq_true (by omega),cond_true,zB hi,Option.bind_some]) (Tr.bind (zib _ h.one (Nat.le_refl _) (by omega)) ?_)
     refine Tr.eq (fun m=>by rw [Option.bind_some,h0]) ?_
     exact Tr.val
   ·rw [decide_eq_false h1,cond_false]
    exact Tr.ff rfl rest
end Go.Abs
end
section
set_option linter.unusedVariables false
set_option linter.unusedSimpArgs false
namespace Go.Abs
noncomputable def fillV (o:Option Form):Form × Bool:=match o with
 | some y=>bif y.valid then (y,true) else (zci,false)
 | none=>(zci,false)
noncomputable def fillT (t:Form) (hs:List Hit):Form × Bool:=bif hvOk hs&&ziG t (nd hs) then fillV (t.fl hs) else (zci,false)
theorem tmplOk_parts {t:Form} {l:List (Form × Int)} (h:ziG t l=true):t.valid=true∧zE t=false∧t.dotsOk false=true∧t.rws l 0=true:=by
 unfold ziG at h
 simp only [Bool.and_eq_true,Bool.not_eq_true'] at h
 exact ⟨h.1,h.2.1,h.2.2.1,h.2.2.2⟩
theorem fillS_of {t:Form} {hs:List Hit} (hv:hvOk hs=true) (ht:ziG t (nd hs)=true):zhK (nd hs) 0 hs t:=by
 obtain ⟨h1,h2,h3,h4⟩:=tmplOk_parts ht
 unfold Form.valid at h1
 rw [Bool.and_eq_true] at h1
 exact ⟨hv,h4,⟨40,h1.1⟩,fun g _ _=>by simp⟩
theorem zid (t:Form) (hs:List Hit) (hf:t.fit) (hb:t.w≤2 ^ 36) (hl:Hit.fits hs) (hlb:Hit.ws hs≤2 ^ 36) (hfo:∀ y,t.fl hs=some y→y.fit):Tr (fun m=>zc0 m t hs) (fillT t hs):=by
 refine Tr.eq (fun m=>by unfold zc0;rfl) (Tr.bind (implTemplateValid_tr t hs hf hb hl hlb) ?_)
 unfold fillT
 cases hg:(hvOk hs&&ziG t (nd hs)) with
 | false=>exact Tr.tt rfl Tr.val
 | true =>
 rw [Bool.and_eq_true] at hg
 have hS:=fillS_of hg.1 hg.2
 have hw:=zix (tmplOk_parts hg.2).1
 refine Tr.ff rfl (Tr.bind (implFill_n (nd hs) _ t (Nat.le_refl _) (by omega) 0 hs hS) ?_)
 rw [cond_true]
 unfold fillV
 cases hfl:t.fl hs with
 | none=>exact Tr.tt rfl Tr.val
 | some y =>
   have hyw:=(fl_ok hS hfl).w
   dsimp only
   refine Tr.eq (fun m=>by rw [Bool.not_true,cond_false]) (Tr.bind (v:=bif y.valid then (y,true) else (zci,false)) ?_ ?_)
   ·refine Tr.eq (fun m=>by unfold zhT;rfl) (Tr.bind (zcP y (hfo y hfl)) ?_)
    cases y.valid with
    | false=>exact Tr.tt rfl Tr.val
    | true=>exact Tr.ff rfl (Tr.bind (zhm y (by omega)) Tr.val)
   ·cases y.valid<;>exact Tr.val
theorem rowF_all {P:Form→Prop} {D:Nat→Option Form} (hD:∀ i y,D i=some y→P y):∀ {k n:Nat} {r:List Form},rowF D n k=some r→∀ y∈r,P y:=fun h y hy=>by
 obtain ⟨i,_,_,hi⟩:=rowF_mem h y hy
 exact hD i y hi
theorem nthR_fit {x:Form} {n:Nat}:∀ {hs:List Hit},Hit.fits hs→Hit.fits (nthR x n hs)
 | [],h=>h
 | h::hs,hf=>by
   rw [Hit.fits] at hf
   show Hit.fits ((bif zd0 x h then h.many.getD n hit0 else h)::nthR x n hs)
   rw [Hit.fits]
   refine ⟨?_,nthR_fit hf.2⟩
   cases zd0 x h with
   | false=>exact hf.1
   | true =>
     rw [cond_true]
     by_cases hn:n < h.many.length
     ·have hm:=many_mem hn
      have:=hf.1
      obtain ⟨a,b,c,d⟩:=h
      rw [Hit.fit] at this
      exact Hit.fits_mem this.2.2.2 hm
     ·rw [List.getD_eq_getElem?_getD,List.getElem?_eq_none (by omega)];exact hit0_fit
theorem hit_one_fit {h:Hit} (hf:h.fit):h.one.fit:=by
 obtain ⟨a,b,c,d⟩:=h
 rw [Hit.fit] at hf
 exact hf.2.1
theorem fl_fit_n:∀ (n:Nat) (f:Form),f.w≤n→f.fit→∀ hs,Hit.fits hs→∀ y,f.fl hs=some y→y.fit:=by
 intro n
 induction n with
 | zero=>intro f h;have:=f.w_kids;omega
 | succ n ih =>
   intro f hn hf hs hl y hy
   have hw:=f.w_kids
   rw [Form.fl_eq] at hy
   by_cases h1:f.kind=1
   ·rw [decide_eq_true h1,cond_true] at hy
    cases hy
    unfold findO
    cases hd:decide (0≤hAt hs f) with
    | false=>exact hf
    | true =>
      rw [cond_true]
      rcases fnd_at (D:=fun y:Hit=>same y.name f) (l:=hs) (k:=0) with ⟨h2,_⟩ | ⟨i,h,h2,h3,_,_⟩
      ·have:=of_decide_eq_true hd
       unfold hAt at this;omega
      ·unfold hAt
       rw [h2,Nat.zero_add,Int.toNat_natCast,List.getD_eq_getElem?_getD,h3,Option.getD_some]
       exact hit_one_fit (Hit.fits_mem hl (List.mem_of_getElem? h3))
   ·rw [decide_eq_false h1,cond_false] at hy
    cases hfs:Form.fls f.kids hs with
    | none=>simp [hfs] at hy
    | some ys =>
      rw [hfs] at hy
      simp only at hy
      cases hc:decide (Form.cnts ys≤400) with
      | false=>rw [hc] at hy;cases hy
      | true =>
        rw [hc,cond_true] at hy
        cases hy
        have key:∀ (zs:List Form),(∀ x∈zs,x∈f.kids)→∀ r,Form.fls zs hs=some r→∀ y∈r,y.fit:=by
         intro zs
         induction zs with
         | nil=>intro _ r hr y hy;rw [Form.fls] at hr;cases hr;cases hy
         | cons x xs ihz =>
           intro hm r hr y hy
           have hxm:=hm x (by simp)
           have hxw:=Form.ws_mem hxm
           have hxf:=Form.fits_mem hf.parts.2.2.2 hxm
           rw [Form.fls_eq] at hr
           cases hdx:zE x with
           | true=>rw [hdx,cond_true] at hr;exact ihz (fun z hz=>hm z (by simp [hz])) r hr y hy
           | false =>
             rw [hdx,cond_false] at hr
             obtain ⟨a,b,ha,hb,rfl⟩:=fapp_some hr
             rcases List.mem_append.1 hy with hy | hy
             ·cases hnx:zbU xs with
              | false =>
                rw [hnx,cond_false] at ha
                cases hxfl:x.fl hs with
                | none=>rw [hxfl] at ha;cases ha
                | some z =>
                  rw [hxfl] at ha;cases ha
                  rw [List.mem_singleton] at hy;subst hy
                  exact ih x (by omega) hxf hs hl _ hxfl
              | true =>
                rw [hnx,cond_true] at ha
                cases hcn:cntR x (-1) hs with
                | none=>rw [hcn] at ha;cases ha
                | some N =>
                  rw [hcn] at ha
                  exact rowF_all (fun i y hiy=>ih x (by omega) hxf _ (nthR_fit hl) y hiy) ha y hy
             ·exact ihz (fun z hz=>hm z (by simp [hz])) b hb y hy
        have hcl:=cnts_len ys
        have hc:=of_decide_eq_true hc
        have hp:=hf.parts
        rw [Form.fit]
        exact ⟨hp.1,hp.2.1,by omega,Form.fits_of_mem (key f.kids (fun x hx=>hx) ys hfs)⟩
theorem fl_fit {f y:Form} {hs:List Hit} (hf:f.fit) (hl:Hit.fits hs) (h:f.fl hs=some y):y.fit:=fl_fit_n _ f (Nat.le_refl _) hf hs hl y h
theorem fillT_cases (t:Form) (hs:List Hit):fillT t hs=(zci,false)∨∃ y,hvOk hs=true∧ziG t (nd hs)=true∧t.fl hs=some y∧y.valid=true∧fillT t hs=(y,true):=by
 unfold fillT
 cases hg:(hvOk hs&&ziG t (nd hs)) with
 | false=>exact .inl rfl
 | true =>
   rw [Bool.and_eq_true] at hg
   unfold fillV
   cases hfl:t.fl hs with
   | none=>exact .inl rfl
   | some y =>
     rw [cond_true]
     simp only
     cases hv:y.valid with
     | false=>exact .inl rfl
     | true=>exact .inr ⟨y,hg.1,hg.2,rfl,hv,rfl⟩
theorem kD_prev:∀ {zs:List Form} {pd sn:Bool} {i:Nat} {x:Form},Form.kD false pd sn zs=true→zs[i]?=some x→zE x=true→(i=0∧pd=false)∨∃ j y,i=j+1∧zs[j]?=some y∧zE y=false
 | z::zs,pd,sn,0,x,h,hx,hd=>by
   simp at hx;subst hx
   rw [Form.kD,hd,cond_true,Bool.and_eq_true,Bool.and_eq_true,Bool.not_eq_true'] at h
   exact .inl ⟨rfl,h.1.1⟩
 | z::zs,pd,sn,i+1,x,h,hx,hd=>by
   rw [Form.kD,Bool.and_eq_true] at h
   rcases kD_prev (zs:=zs) (i:=i) h.2 (by simpa using hx) hd with ⟨rfl,h2⟩ | ⟨j,y,rfl,hy,hyd⟩
   ·exact .inr ⟨0,z,rfl,rfl,h2⟩
   ·exact .inr ⟨j+1,y,rfl,by simpa using hy,hyd⟩
theorem zhK.plain {l:List (Form × Int)} {v:Nat} {hs:List Hit} {f:Form} (hF:zhK l v hs f) (hd:f.dotsOk false=true) (hno:∀ h∈hs,Form.part h.name f=false):∀ x∈f.kids,zE x=false:=by
 intro x hx
 rw [Bool.eq_false_iff]
 intro hdx
 obtain ⟨i,hi⟩:=List.getElem?_of_mem hx
 rw [Form.dotsOk_eq] at hd
 rcases kD_prev hd hi hdx with ⟨_,h⟩ | ⟨j,y,rfl,hy,hyd⟩
 ·cases h
 ·have hnx:zbU (f.kids.drop (j+1))=true:=by
   rw [drop_get hi];exact hdx
  obtain ⟨⟨h,hm,hdp⟩,_⟩:=hF.row hy hyd hnx
  unfold zd0 at hdp
  rw [Bool.and_eq_true] at hdp
  have:=part_kid (List.mem_of_getElem? hy) hdp.1
  rw [hno h hm] at this;cases this
end Go.Abs
end
section
set_option linter.unusedVariables false
set_option linter.unusedSimpArgs false
namespace Go.Abs
noncomputable def applyR (bs:List Bind) (rules:List Rule) (lits:List Form) (f:Form):Form × Bool :=
 bif (firstR bs rules lits f).2 then
  (match rules[(firstR bs rules lits f).1.toNat]? with
   | some r=>fillT r.template ((r.pattern.mt bs lits f).getD [])
   | none=>(zci,false))
 else (zci,false)
theorem firstR_cases (bs:List Bind) (rules:List Rule) (lits:List Form) (f:Form):(firstR bs rules lits f=(0,false))∨∃ (i:Nat) (r:Rule) (h:List Hit),firstR bs rules lits f=((i:Int),true)∧rules[i]?=some r∧r.pattern.mt bs lits f=some h∧bvOk bs=true∧zed rules lits=true∧f.valid=true∧∀ y∈rules.take i,ruleM bs lits f y=false:=by
 unfold firstR
 cases hg:(bvOk bs&&(zed rules lits&&f.valid)) with
 | false=>exact .inl rfl
 | true =>
   rw [cond_true]
   simp only [Bool.and_eq_true] at hg
   rcases fstR_cases (ruleM bs lits f) rules with ⟨h1,_⟩ | ⟨i,x,h1,h2,h3,h4⟩
   ·exact .inl h1
   ·unfold ruleM at h3
    obtain ⟨h,hh⟩:=Option.isSome_iff_exists.1 h3
    exact .inr ⟨i,x,h,h1,h2,hh,hg.1,hg.2.1,hg.2.2,h4⟩
theorem zip_eq {α β:Type}:∀ {a b:List (α × β)},a.map (·.1)=b.map (·.1)→a.map (·.2)=b.map (·.2)→a=b
 | [],[],_,_=>rfl
 | [],_::_,h,_=>by simp at h
 | _::_,[],h,_=>by simp at h
 | x::xs,y::ys,h1,h2=>by
   rw [List.map_cons,List.map_cons,List.cons.injEq] at h1 h2
   rw [zip_eq h1.2 h2.2,Prod.ext h1.1 h2.1]
theorem rule_tmpl {bs:List Bind} {r:Rule} {lits:List Form} {f:Form} {h:List Hit} (hr:zgS r lits=true) (hf:f.valid=true) (hm:r.pattern.mt bs lits f=some h):hvOk h=true∧ziG r.template (nd h)=true:=by
 have hp:=zhW hr
 refine ⟨mt_hvOk hp hf hm,?_⟩
 have e:nd h=r.pattern.vd lits 0:=zip_eq (by rw [nd_fst,mt_names (ziz hp) hm,Form.vd_fst]) (by rw [nd_snd,mt_depth (ziz hp) hm])
 unfold zgS at hr
 simp only [Bool.and_eq_true] at hr
 rw [e];exact hr.2.2.2
theorem mt_light {bs:List Bind} {p f:Form} {lits:List Form} {h:List Hit} (hp:ziA p lits=true) (hf:f.valid=true) (hm:p.mt bs lits f=some h):Hit.ws h≤2 ^ 30:=by
 have:=mt_w (ziz hp) hm
 have h1:=patOk_w hp
 have h2:=zix hf
 have h4:p.w*f.w≤10400*10400:=Nat.mul_le_mul h1 h2
 omega
section
variable (bs:List Bind) (rules:List Rule) (lits:List Form) (f:Form) (hb:∀ b∈bs,b.fit) (hbl:bs.length≤2 ^ 36) (hr:RulesF rules) (hl:Form.fits lits) (hf:f.fit)
include hb hbl hr hl hf
theorem implApply_tr:Tr (fun m=>zeH m bs rules lits f) (applyR bs rules lits f):=by
 refine Tr.eq (fun m=>by unfold zeH;rfl) (Tr.bind (implFirst_tr bs rules lits f hb hbl hr hl hf) ?_)
 unfold applyR
 rcases firstR_cases bs rules lits f with e | ⟨i,r,h,e,h1,h2,h3,h4,h5,_⟩
 ·rw [e];exact Tr.tt rfl Tr.val
 ·rw [e]
  have hm:=List.mem_of_getElem? h1
  have hok:=(zh0 h4).1 r hm
  have hp:=zhW hok
  have hpw:=patOk_w hp
  have hfw:=zix h5
  have hrf:=hr.fit r hm
  refine Tr.ff rfl (Tr.eq (fun m=>by rw [zB h1,Option.bind_some]) (Tr.bind (implMatch_n bs lits hbl hb h3 _ r.pattern (Nat.le_refl _) (ziz hp) hrf.1 (by omega) f h5 hf (by omega)) ?_))
  rw [h2]
  simp only [cond_true,Int.toNat_natCast,h1]
  have hfit:=mt_fit hrf.1 hf h2
  have hw:=mt_light hp h5 h2
  refine Tr.eq (fun m=>by rw [Option.bind_some];rfl) (Tr.bind (zid r.template h hrf.2 (hr.tw r hm) hfit (by omega) (fun y hy=>fl_fit hrf.2 hfit hy)) ?_)
  rw [h2];exact Tr.val
theorem specApply_tr (hlw:Form.ws lits≤2 ^ 36) (hfb:f.w≤2 ^ 36) (hrl:rules.length≤2 ^ 36):Tr (fun m=>zeC m bs rules lits f) (applyR bs rules lits f):=by
 have own:Tr (fun m=>zda m rules) rules:=by
  refine Tr.eq (fun m=>by unfold zda;rfl) ?_
  have key:=z8 rules (fun k zs=>(∀ z∈zs,z∈rules)→∀ g:List Rule,g++zs=rules→g.length=k→Tr (fun m=>zaL m rules g (k:Int)) rules) ?_ ?_ 0 (Nat.zero_le _) (fun z hz=>by simpa using hz) [] (by rw [List.drop_zero,List.nil_append]) rfl
  ·exact key
  ·intro _ g hg _
   rw [List.append_nil] at hg;subst hg
   exact Tr.step (fun m=>by rw [zaL,zN,cond_false]) Tr.val
  ·intro k x zs hk hx hd ih hall g hg hgl
   have hm:=hall x (by simp)
   refine Tr.step (fun m=>by rw [zaL,ltN hk,cond_true,zB hx,Option.bind_some,za6]) ?_
   refine Tr.bind (v:=x) (Tr.eq (fun m=>by unfold zf4;rfl) (Tr.bind (ownForm_tr x.pattern (hr.pw x hm)) (Tr.bind (ownForm_tr x.template (hr.tw x hm)) ?_))) ?_
   ·obtain ⟨a,b⟩:=x;exact Tr.val
   ·refine Tr.chk (decide_eq_true (by simp;omega)) (ih (fun z hz=>hall z (by simp [hz])) (g++[x]) (by rw [List.append_assoc];exact hg) (by simp [hgl]))
 refine Tr.eq (fun m=>by unfold zeC;rfl) (Tr.bind own (Tr.bind (specFirst_tr bs rules lits f hb hbl hr hl hlw hf hfb) ?_))
 unfold applyR
 rcases firstR_cases bs rules lits f with e | ⟨i,r,h,e,h1,h2,h3,h4,h5,_⟩
 ·rw [e];exact Tr.tt rfl Tr.val
 ·rw [e]
  have hm:=List.mem_of_getElem? h1
  have hok:=(zh0 h4).1 r hm
  have hp:=zhW hok
  have hpw:=patOk_w hp
  have hfw:=zix h5
  have hrf:=hr.fit r hm
  refine Tr.ff rfl (Tr.eq (fun m=>by rw [zB h1,Option.bind_some]) ?_)
  simp only [cond_true,Int.toNat_natCast,h1,h2,Option.getD_some]
  obtain ⟨g1,g2⟩:=rule_tmpl hok h5 h2
  have hS:=fillS_of g1 g2
  have htw:=zix (tmplOk_parts g2).1
  have hfit:=mt_fit hrf.1 hf h2
  refine TQ.tr ?_
  refine TQ.bind (l4Match_n bs lits hbl _ r.pattern (Nat.le_refl _) (ziz hp) (by omega) f (by omega)) (fun q hq=>?_)
  obtain ⟨q1,q2⟩:=hq
  have qq:=q2 h h2
  rw [List.nil_append] at qq
  rw [qq]
  refine TQ.same (v:=fillT r.template h) ?_
  refine Tr.eq (fun m=>by rw [Option.bind_some]) (Tr.bind (specFill_n (nd h) _ r.template (Nat.le_refl _) (by omega) 0 h hS) ?_)
  unfold fillT
  rw [g1,g2,Bool.and_self,cond_true]
  unfold fillV
  cases hfl:r.template.fl h with
  | none=>exact Tr.tt rfl Tr.val
  | some y =>
    have hyw:=(fl_ok hS hfl).w
    dsimp only
    refine Tr.eq (fun m=>by rw [Bool.not_true,cond_false]) (Tr.bind (zd1 y (fl_fit hrf.2 hfit hfl) (by omega)) ?_)
    cases y.valid with
    | false=>exact Tr.eq (fun m=>by rw [Bool.not_false,cond_true];rfl) Tr.val
    | true=>exact Tr.eq (fun m=>by rw [Bool.not_true,cond_false];rfl) Tr.val
end
theorem applyR_none {bs:List Bind} {rules:List Rule} {lits:List Form} {f:Form} (h:firstR bs rules lits f=(0,false)):applyR bs rules lits f=(zci,false):=by
 unfold applyR;rw [h];rfl
theorem applyR_some {bs:List Bind} {rules:List Rule} {lits:List Form} {f:Form} {i:Nat} {r:Rule} {hs:List Hit} (h:firstR bs rules lits f=((i:Int),true)) (h1:rules[i]?=some r) (h2:r.pattern.mt bs lits f=some hs):applyR bs rules lits f=fillT r.template hs:=by
 unfold applyR;rw [h];simp only [cond_true,Int.toNat_natCast,h1,h2,Option.getD_some]
theorem DrawApplyRules_tq (code:List Int) (hc:∀ x∈code,0≤x∧x < 256):TQ (fun m=>zdc m code) (fun r=>r.1=[]∧Dr5 r.2.2.1 r.2.1 r.2.2.2) :=
 TQ.eq (fun m=>by unfold zdc;rfl) (TQ.bind (DrawFirstRule_tq code hc) (fun v hv=>TQ.val hv))
theorem FnApplyRules_law (code:List Int) (hc:∀ x∈code,0≤x∧x < 256):TQ (fun m=>zeQ m code) (fun r=>r=true):=by
 refine codeB (fun _=>?_) (fun m=>by unfold zeQ;rfl)
 refine TQ.bind (DrawApplyRules_tq code hc) (fun c hcc=>?_)
 obtain ⟨bs,rules,lits,f⟩:=c
 obtain ⟨h1,h2⟩:=hcc
 replace h1:bs=[]:=h1
 replace h2:Dr5 lits rules f:=h2
 subst h1
 have hfw:=h2.f.w
 have hlw:=h2.lw
 have hlen:=h2.len
 have nb:∀ b∈([]:List Bind),b.fit:=fun b hb=>by cases hb
 refine TQ.ev (implApply_tr [] rules lits f nb (by simp) h2.rf h2.lf h2.f.fit) (TQ.ev (specApply_tr [] rules lits f nb (by simp) h2.rf h2.lf h2.f.fit (by omega) (by omega) (by omega)) ?_)
 refine TQ.ev (implFirst_tr [] rules lits f nb (by simp) h2.rf h2.lf h2.f.fit) (TQ.ev (specFirst_tr [] rules lits f nb (by simp) h2.rf h2.lf (by omega) h2.f.fit (by omega)) ?_)
 refine TQ.same (Tr.bind (zbP _ _) ?_)
 rw [zgR]
 refine Tr.ff rfl (Tr.ff (decide_eq_false (fun h=>h rfl)) (Tr.ff (decide_eq_false (fun h=>h rfl)) (Tr.ff (decide_eq_false (fun h=>h rfl)) ?_)))
 rcases firstR_cases [] rules lits f with e | ⟨i,r,h,e,h1,hm,g1,g2,g3,_⟩
 ·rw [e,applyR_none e]
  refine Tr.step (fun m=>by rw [zaz,Bool.not_false,cond_true]) (Tr.bind (zbP _ _) ?_)
  rw [zgR]
  exact Tr.tt rfl (Tr.tt (by simp) (Tr.tt (by simp) (Tr.tt (by simp) (Tr.step (fun m=>by rw [zaH]) Tr.val))))
 ·have hrm:=List.mem_of_getElem? h1
  have hok:=(zh0 g2).1 r hrm
  have hp:=zhW hok
  have hd:=h2.r r hrm
  have hpw:=hd.p.w
  have htw:=hd.t.w
  have hfit:=mt_fit hd.p.fit h2.f.fit hm
  have hhw:=mt_light hp g3 hm
  have hfo:∀ y,r.template.fl h=some y→y.fit:=fun y hy=>fl_fit hd.t.fit hfit hy
  rw [e,applyR_some e h1 hm]
  refine Tr.step (fun m=>by rw [zaz,Bool.not_true,cond_false,zB h1,Option.bind_some]) ?_
  refine Tr.bind (implMatchPattern_tr [] r.pattern lits f nb (by simp) hd.p.fit (by omega) h2.lf h2.f.fit (by omega)) ?_
  have hmp:matchP [] r.pattern lits f=(h,true):=by unfold matchP;rw [g1,hp,g3,hm];rfl
  rw [hmp]
  refine Tr.eq (fun m=>by rw [Option.bind_some]) (Tr.bind (zid r.template h hd.t.fit (by omega) hfit (by omega) hfo) ?_)
  refine Tr.tt rfl (Tr.tt (decide_eq_true rfl) ?_)
  rcases fillT_cases r.template h with hm2 | ⟨y,b1,b2,b3,b4,hm2⟩
  ·rw [hm2];exact Tr.tt rfl Tr.val
  ·rw [hm2]
   refine Tr.ff rfl (Tr.bind (zbP _ _) ?_)
   rw [zgR]
   refine Tr.tt rfl (Tr.bind (zcP y (hfo y b3)) ?_)
   rw [b4];exact Tr.val
end Go.Abs
end
