/- A part of the proof: what the functions that the law calls answer, as pure values. -/
import Derived.Test.YtpdacpnncmemgaaGreatK44963eedd702
import Derived.Test.YtpdacpnncmemgaaGreatKe05290cf3b33
import Derived.Test.YtpdacpnncmemgaaGreatK4dfb307e8ff0
set_option linter.unusedSimpArgs false
set_option linter.unusedVariables false
section
set_option linter.unusedVariables false
set_option linter.unusedSimpArgs false
namespace Go.Abs
mutual
noncomputable def Form.gen (lits:List Form):Form→Form→Bool
 | .mk k nm n sc kids,p =>
   bif zdt lits (.mk k nm n sc kids) then true
   else bif decide (k=1)&&decide (nm=zd0) then true
   else bif decide (k≠3) then same (.mk k nm n sc kids) p
   else bif decide (p.kind≠3) then false
   else bif decide ((kids.length:Int)≠(p.kids.length:Int)) then false
   else Form.gens lits kids p.kids
noncomputable def Form.gens (lits:List Form):List Form→List Form→Bool
 | [],_=>true
 | _::_,[]=>true
 | q::qs,p::ps=>bif decide (zC q≠zC p) then false else bif !zC q then (bif !Form.gen lits q p then false else Form.gens lits qs ps) else Form.gens lits qs ps
end
theorem Form.gen_eq (lits:List Form) (q p:Form):q.gen lits p=bif zdt lits q then true
  else bif decide (q.kind=1)&&decide (q.name=zd0) then true
  else bif decide (q.kind≠3) then same q p
  else bif decide (p.kind≠3) then false
  else bif decide ((q.kids.length:Int)≠(p.kids.length:Int)) then false
  else Form.gens lits q.kids p.kids:=by obtain ⟨a,b,c,d,e⟩:=q;rw [Form.gen];rfl
theorem gens_cons {lits:List Form} {q p:Form} {qs ps:List Form} (h:Form.gens lits (q::qs) (p::ps)=true):zC q=zC p∧(zC p=false→q.gen lits p=true)∧Form.gens lits qs ps=true:=by
 rw [Form.gens] at h
 cases hq:zC q<;>cases hp:zC p<;>rw [hq,hp] at h
 ·cases hg:Form.gen lits q p with
  | false=>rw [hg] at h;cases h
  | true=>rw [hg] at h;exact ⟨rfl,fun _=>rfl,h⟩
 ·cases h
 ·cases h
 ·exact ⟨rfl,fun hh=>(by cases hh),h⟩
theorem gens_next {lits:List Form}:∀ {qs ps:List Form},qs.length=ps.length→Form.gens lits qs ps=true→zdu qs=zdu ps
 | [],[],_,_=>rfl
 | q::qs,p::ps,_,h=>(gens_cons h).1
 | [],p::ps,h,_=>by simp at h
 | q::qs,[],h,_=>by simp at h
theorem allM_some {α β:Type} {D E:α→Option β} (h:∀ x,(D x).isSome=true→(E x).isSome=true):∀ l:List α,(allM D l).isSome=true→(allM E l).isSome=true
 | [],hd=>by rw [allM];rfl
 | x::xs,hd=>by
   rw [allM] at hd ⊢
   have ih:=allM_some h xs
   cases hx:D x with
   | none=>rw [hx] at hd;cases hd
   | some y =>
     obtain ⟨z,hz⟩:=Option.isSome_iff_exists.1 (h x (by rw [hx];rfl))
     rw [hx] at hd;rw [hz]
     cases hxs:allM D xs with
     | none=>rw [hxs] at hd;cases hd
     | some ys =>
       obtain ⟨zs,hzs⟩:=Option.isSome_iff_exists.1 (ih (by rw [hxs];rfl))
       rw [hzs];rfl
theorem oapp_l {α:Type} {a b:Option (List α)} (h:(oapp a b).isSome=true):a.isSome=true∧b.isSome=true:=by
 cases a<;>cases b<;>first | cases h;done | exact ⟨rfl,rfl⟩
theorem oapp_r {α:Type} {a b:Option (List α)} (h1:a.isSome=true) (h2:b.isSome=true):(oapp a b).isSome=true:=by
 cases a<;>cases b<;>first | rfl | cases h1;done | cases h2;done
mutual
theorem gen_mt (bs:List Bind) (lits:List Form):∀ (q p f:Form),q.gen lits p=true→(p.mt bs lits f).isSome=true→(q.mt bs lits f).isSome=true
 | .mk k nm n sc kids,p,f,hg,hp=>by
   rw [Form.gen] at hg
   cases hv:zdt lits (.mk k nm n sc kids) with
   | true =>
     unfold zdt at hv
     simp only [Bool.and_eq_true,Bool.not_eq_true',decide_eq_true_eq,decide_eq_false_iff_not] at hv
     obtain ⟨h1,_,h2,h3⟩:=hv
     replace h1:k=1:=h1
     replace h2:¬ nm=zd0:=h2
     rw [Form.mt,decide_eq_true h1,decide_eq_false h2,h3];rfl
   | false =>
   rw [hv,cond_false] at hg
   cases hu:(decide (k=1)&&decide (nm=zd0)) with
   | true =>
     simp only [Bool.and_eq_true,decide_eq_true_eq] at hu
     rw [Form.mt,decide_eq_true hu.1,decide_eq_true hu.2];rfl
   | false =>
   rw [hu,cond_false] at hg
   by_cases h3:k=3
   case neg =>
    rw [decide_eq_true h3,cond_true,zfO] at hg
    rw [hg];exact hp
   rw [decide_eq_false (fun h=>h h3),cond_false] at hg
   by_cases hp3:p.kind=3
   case neg=>rw [decide_eq_true hp3] at hg;cases hg
   rw [decide_eq_false (fun h=>h hp3),cond_false] at hg
   by_cases hl:(kids.length:Int)=(p.kids.length:Int)
   case neg=>rw [decide_eq_true hl] at hg;cases hg
   rw [decide_eq_false (fun h=>h hl),cond_false] at hg
   have key:=fun fs=>gens_mts bs lits kids p.kids fs (by omega) hg
   obtain ⟨pk,pn,pi,psc,pkids⟩:=p
   subst h3
   replace hp3:pk=3:=hp3
   subst hp3
   rw [Form.mt] at hp ⊢
   have e1:decide ((3:Int)=1)=false:=rfl
   have e2:decide ((3:Int)=2)=false:=rfl
   rw [e1,e2,cond_false,cond_false] at hp ⊢
   cases hf:decide (f.kind≠3) with
   | true=>rw [hf] at hp;cases hp
   | false=>rw [hf] at hp;exact key _ hp
theorem gens_mts (bs:List Bind) (lits:List Form):∀ (qs ps fs:List Form),qs.length=ps.length→Form.gens lits qs ps=true→(Form.mts bs lits ps fs).isSome=true→(Form.mts bs lits qs fs).isSome=true
 | [],ps,fs,hl,_,hp=>by
   have:ps=[]:=List.length_eq_zero_iff.1 hl.symm
   subst this;exact hp
 | q::qs,ps,fs,hl,hg,hp=>by
   obtain _ | ⟨p,ps⟩:=ps
   ·simp at hl
   obtain ⟨hd,hgq,hgs⟩:=gens_cons hg
   have hll:qs.length=ps.length:=by simpa using hl
   have hn:=gens_next hll hgs
   rw [Form.mts_eq] at hp ⊢
   rw [hd,hn,hll]
   cases hdp:zC p with
   | true=>rw [hdp,cond_true] at hp;rw [cond_true];exact gens_mts bs lits qs ps fs hll hgs hp
   | false =>
     have hgq:=fun f=>gen_mt bs lits q p f (hgq hdp)
     rw [hdp,cond_false] at hp;rw [cond_false]
     cases hnd:zdu ps with
     | true =>
       rw [hnd,cond_true] at hp;rw [cond_true]
       have hr:=gens_mts bs lits qs ps (fs.drop (fs.length+1-ps.length)) hll hgs
       cases hc:decide (fs.length+1 < ps.length) with
       | true=>rw [hc] at hp;cases hp
       | false =>
         rw [hc,cond_false] at hp;rw [cond_false]
         have ha:=allM_some hgq (fs.take (fs.length+1-ps.length))
         cases hap:allM (fun f=>p.mt bs lits f) (fs.take (fs.length+1-ps.length)) with
         | none=>rw [hap] at hp;cases hp
         | some rows =>
           obtain ⟨r2,hr2⟩:=Option.isSome_iff_exists.1 (ha (by rw [hap];rfl))
           rw [hap] at hp;rw [hr2]
           exact oapp_r rfl (hr (oapp_l hp).2)
     | false =>
       rw [hnd,cond_false] at hp;rw [cond_false]
       cases fs with
       | nil=>cases hp
       | cons f fs=>exact oapp_r (hgq f (oapp_l hp).1) (gens_mts bs lits qs ps fs hll hgs (oapp_l hp).2)
end
theorem implGen_n (lits:List Form):∀ (n:Nat) (q:Form),q.w≤n→∀ p:Form,Tr (fun m=>zdP m q p lits) (q.gen lits p):=by
 intro n
 induction n with
 | zero=>intro q h;have:=q.w_kids;omega
 | succ n ih =>
   intro q hn p
   have hw:=q.w_kids
   rw [Form.gen_eq]
   refine Tr.step (fun m=>by rw [zdP]) (Tr.bind (isVar_tr q lits) ?_)
   have yes:Tr (fun m=>zb9 m q p lits true) true:=Tr.step (fun m=>by rw [zb9,cond_true]) Tr.val
   cases zdt lits q with
   | true=>exact yes
   | false =>
   rw [cond_false]
   refine Tr.ff rfl (Tr.bind (v:=decide (q.kind=1)&&decide (q.name=zd0)) (zeQ q zd0) ?_)
   cases decide (q.kind=1)&&decide (q.name=zd0) with
   | true=>exact yes
   | false =>
   rw [cond_false]
   refine Tr.step (fun m=>by rw [zb9,cond_false]) ?_
   cases decide (q.kind≠3) with
   | true=>exact Tr.tt rfl (Tr.bind (zbZ q p) Tr.val)
   | false =>
   rw [cond_false]
   refine Tr.ff rfl ?_
   have no:Tr (fun m=>zb8 m q p lits true) false:=Tr.step (fun m=>by rw [zb8,cond_true]) Tr.val
   cases decide (p.kind≠3) with
   | true=>exact Tr.tt rfl no
   | false =>
   rw [cond_false]
   refine Tr.ff rfl ?_
   by_cases hl:(q.kids.length:Int)=(p.kids.length:Int)
   case neg=>rw [decide_eq_true hl];exact no
   rw [decide_eq_false (fun h=>h hl),cond_false]
   refine Tr.step (fun m=>by rw [zb8,cond_false]) ?_
   have key:=zac q.kids (fun k zs=>Tr (fun m=>zbP m q p lits (k:Int)) (Form.gens lits zs (p.kids.drop k))) ?_ ?_ 0 (Nat.zero_le _)
   ·exact key
   ·exact Tr.step (fun m=>by rw [zbP,zW,cond_false,Form.gens]) Tr.val
   ·intro k x zs hk hx hd ihk
    have hk2:k < p.kids.length:=by omega
    have hdr:p.kids.drop k=p.kids[k]::p.kids.drop (k+1):=List.drop_eq_getElem_cons hk2
    have hy:p.kids[k]?=some p.kids[k]:=List.getElem?_eq_getElem hk2
    have hxw:=Form.ws_mem (List.mem_of_getElem? hx)
    rw [hdr,Form.gens]
    refine Tr.step (fun m=>by rw [zbP,ltN hk,cond_true,zG hx,Option.bind_some]) (Tr.bind (v:=zC x) (zeQ x dotsN) ?_)
    refine Tr.eq (fun m=>by rw [zG hy,Option.bind_some]) (Tr.bind (v:=zC p.kids[k]) (zeQ p.kids[k] dotsN) ?_)
    cases decide (zC x≠zC p.kids[k]) with
    | true=>exact Tr.tt rfl Tr.val
    | false =>
    rw [cond_false]
    refine Tr.ff rfl ?_
    cases zC x with
    | true=>exact Tr.ff rfl (Tr.eq (fun m=>by rw [zbM]) ihk)
    | false =>
    rw [Bool.not_false,cond_true]
    refine Tr.tt rfl (Tr.eq (fun m=>by rw [Option.bind_some]) (Tr.bind (ih x (by omega) _) ?_))
    cases x.gen lits p.kids[k] with
    | false=>exact Tr.tt rfl Tr.val
    | true=>exact Tr.ff rfl (Tr.eq (fun m=>by rw [zbM]) ihk)
theorem litF_under {x:Form}:∀ {ps l:List Form},litF ps l=true→x∈l→x.name≠zd0
 | ps,y::l,h,hx=>by
   rw [litF] at h
   simp only [Bool.and_eq_true,Bool.not_eq_true',decide_eq_false_iff_not] at h
   rcases List.mem_cons.1 hx with rfl | hx
   ·exact h.2.2.1
   ·exact litF_under h.2.2.2.2 hx
theorem inF_under {lits:List Form} {q:Form} (h:litOk lits=true) (hq:q.name=zd0):inF lits q=false:=by
 unfold litOk at h
 rw [Bool.and_eq_true] at h
 unfold inF
 rw [Bool.not_eq_false',zc7]
 intro x hx
 rw [Bool.not_eq_true']
 refine same_ne (fun e=>litF_under h.1 hx ?_)
 rw [e];exact hq
theorem specGen_n (lits:List Form) (hlo:litOk lits=true):∀ (n:Nat) (q:Form),q.w≤n→∀ p:Form,Tr (fun m=>zcR m p q lits) (q.gen lits p):=by
 intro n
 induction n with
 | zero=>intro q h;have:=q.w_kids;omega
 | succ n ih =>
   intro q hn p
   have hw:=q.w_kids
   have e:q.gen lits p=bif decide (q.kind=1)&&(!decide (q.name=dotsN)&&!inF lits q) then true else bif decide (q.kind≠3) then same p q
     else bif decide (p.kind≠3) then false
     else bif decide ((q.kids.length:Int)≠(p.kids.length:Int)) then false
     else Form.gens lits q.kids p.kids:=by
    rw [Form.gen_eq,same_comm q p]
    unfold zdt
    by_cases hu:q.name=zd0
    ·rw [inF_under hlo hu,decide_eq_true hu,decide_eq_false (show ¬ q.name=dotsN by rw [hu];decide)]
     cases decide (q.kind=1)<;>rfl
    ·rw [decide_eq_false hu]
     cases decide (q.kind=1)<;>cases decide (q.name=dotsN)<;>cases inF lits q<;>rfl
   rw [e]
   have j1:Tr (fun m=>zbC m p q lits) (bif decide (q.kind≠3) then same p q
     else bif decide (p.kind≠3) then false
     else bif decide ((q.kids.length:Int)≠(p.kids.length:Int)) then false
     else Form.gens lits q.kids p.kids):=by
    refine Tr.step (fun m=>by rw [zbC]) ?_
    cases decide (q.kind≠3) with
    | true=>exact Tr.tt rfl (Tr.bind (zg9 p q) Tr.val)
    | false =>
    rw [cond_false]
    refine Tr.ff rfl ?_
    have no:Tr (fun m=>zbB m p q lits true) false:=Tr.step (fun m=>by rw [zbB,cond_true]) Tr.val
    cases decide (p.kind≠3) with
    | true=>exact Tr.tt rfl no
    | false =>
    rw [cond_false]
    refine Tr.ff rfl ?_
    by_cases hl:(q.kids.length:Int)=(p.kids.length:Int)
    case neg=>rw [decide_eq_true hl,decide_eq_true (show (p.kids.length:Int)≠(q.kids.length:Int) from fun h=>hl h.symm)];exact no
    rw [decide_eq_false (show ¬ (q.kids.length:Int)≠(p.kids.length:Int) from fun h=>h hl),decide_eq_false (show ¬ (p.kids.length:Int)≠(q.kids.length:Int) from fun h=>h hl.symm),cond_false]
    refine Tr.step (fun m=>by rw [zbB,cond_false]) ?_
    have key:=zac q.kids (fun k zs=>Tr (fun m=>zbc m p q lits (k:Int)) (Form.gens lits zs (p.kids.drop k))) ?_ ?_ 0 (Nat.zero_le _)
    ·exact key
    ·exact Tr.step (fun m=>by rw [zbc,hl,zW,cond_false,Form.gens]) Tr.val
    ·intro k x zs hk hx hd ihk
     have hk2:k < p.kids.length:=by omega
     have hdr:p.kids.drop k=p.kids[k]::p.kids.drop (k+1):=List.drop_eq_getElem_cons hk2
     have hy:p.kids[k]?=some p.kids[k]:=List.getElem?_eq_getElem hk2
     have hxw:=Form.ws_mem (List.mem_of_getElem? hx)
     rw [hdr,Form.gens]
     refine Tr.step (fun m=>by rw [zbc,ltN hk2,cond_true,zG hy,Option.bind_some]) (Tr.bind (zfh p.kids[k]) ?_)
     refine Tr.eq (fun m=>by rw [zG hx,Option.bind_some]) (Tr.bind (zfh x) ?_)
     by_cases hxy:zC x=zC p.kids[k]
     case neg=>rw [decide_eq_true hxy,decide_eq_true (show zC p.kids[k]≠zC x from fun h=>hxy h.symm)];exact Tr.tt rfl Tr.val
     rw [decide_eq_false (show ¬ zC x≠zC p.kids[k] from fun h=>h hxy),decide_eq_false (show ¬ zC p.kids[k]≠zC x from fun h=>h hxy.symm),cond_false]
     refine Tr.ff rfl (Tr.eq (fun m=>by rw [Option.bind_some]) (Tr.bind (zfh p.kids[k]) ?_))
     rw [← hxy]
     cases zC x with
     | true=>exact Tr.ff rfl (Tr.eq (fun m=>by rw [zbM]) ihk)
     | false =>
     rw [Bool.not_false,cond_true]
     refine Tr.tt rfl (Tr.eq (fun m=>by rw [Option.bind_some,Option.bind_some]) (Tr.bind (ih x (by omega) _) ?_))
     cases x.gen lits p.kids[k] with
     | false=>exact Tr.tt rfl Tr.val
     | true=>exact Tr.ff rfl (Tr.eq (fun m=>by rw [zbM]) ihk)
   refine Tr.step (fun m=>by rw [zcR,dec_ne]) ?_
   cases decide (q.kind=1) with
   | false=>exact Tr.ff rfl j1
   | true =>
   rw [Bool.true_and]
   refine Tr.tt rfl ?_
   cases hdn:decide (q.name=dotsN) with
   | true=>exact Tr.ff rfl j1
   | false =>
   rw [Bool.not_false,Bool.true_and]
   refine Tr.tt rfl (Tr.bind (l4In_tr lits q) ?_)
   cases inF lits q with
   | true=>exact Tr.ff rfl j1
   | false=>exact Tr.tt rfl Tr.val
noncomputable def deadB (lits:List Form) (xs:List Rule) (x:Rule):Bool:=!alls (fun r=>!r.pattern.gen lits x.pattern) xs
noncomputable def deads (lits:List Form) (rules:List Rule):Nat→List Rule→List Int
 | _,[]=>[]
 | k,x::xs=>(bif deadB lits (rules.take k) x then [(k:Int)] else [])++deads lits rules (k+1) xs
noncomputable def zhB (rules:List Rule) (lits:List Form):List Int:=bif zbs rules lits then deads lits rules 0 rules else []
theorem mem_deads {lits:List Form} {rules:List Rule} {i:Nat}:∀ {zs:List Rule} {k:Nat},(i:Int)∈deads lits rules k zs→∃ j x,i=k+j∧zs[j]?=some x∧deadB lits (rules.take i) x=true
 | [],k,h=>by rw [deads] at h;cases h
 | x::xs,k,h=>by
   rw [deads,List.mem_append] at h
   rcases h with h | h
   ·cases hd:deadB lits (rules.take k) x with
    | false=>rw [hd] at h;cases h
    | true =>
      rw [hd,cond_true,List.mem_singleton] at h
      have:i=k:=by omega
      subst this
      exact ⟨0,x,rfl,rfl,hd⟩
   ·obtain ⟨j,y,h1,h2,h3⟩:=mem_deads h
    exact ⟨j+1,y,by omega,by simpa using h2,h3⟩
theorem implDead_tr (rules:List Rule) (lits:List Form) (hr:RulesF rules) (hl:Form.fits lits):Tr (fun m=>zeE m rules lits) (zhB rules lits):=by
 refine Tr.eq (fun m=>by unfold zeE;rfl) (Tr.bind (rulesOk_tr rules lits (fun r h=>⟨hr.fit r h,hr.pw r h,hr.tw r h⟩) hl) ?_)
 unfold zhB
 cases hro:zbs rules lits with
 | false=>exact Tr.tt rfl Tr.val
 | true =>
 have hlen:=(zhc hro).2
 refine Tr.ff rfl ?_
 have key:=zac rules (fun k zs=>∀ g:List Int,g.length≤k→Tr (fun m=>zbj m rules lits g (k:Int)) (g++deads lits rules k zs)) ?_ ?_ 0 (Nat.zero_le _) [] (by simp)
 ·exact key
 ·intro g hg
  rw [deads,List.append_nil]
  exact Tr.step (fun m=>by rw [zbj,zW,cond_false]) Tr.val
 ·intro k x zs hk hx hd ih g hg
  refine Tr.step (fun m=>by rw [zbj,ltN hk,cond_true,zG hx,Option.bind_some,zhq (by omega),Option.bind_some]) ?_
  refine Tr.bind (v:=deadB lits (rules.take k) x) (Tr.eq (fun m=>by unfold zaR;rfl) (Tr.bind (v:=fnd (fun r=>r.pattern.gen lits x.pattern) (rules.take k) 0) ?_ (Tr.of fun m=>by rw [fnd_none];rfl))) ?_
  ·refine Tr.eq (fun m=>by unfold zbg;rfl) ?_
   exact zdG (L:=fun m j=>zX m (rules.take k) x lits j) (E:=fun m y=>zdF m y x lits) (fun m j=>by rw [zX]) (fun y _=>Tr.eq (fun m=>by unfold zdF;rfl) (Tr.bind (implGen_n lits _ y.pattern (Nat.le_refl _) x.pattern) Tr.val))
  rw [deads]
  cases deadB lits (rules.take k) x with
  | false=>exact Tr.ff rfl (Tr.eq (fun m=>by rw [zbM]) (ih g (by omega)))
  | true =>
    rw [cond_true,← List.append_assoc]
    refine Tr.tt rfl (Tr.chk (decide_eq_true (by simp;omega)) (Tr.eq (fun m=>by rw [zbM]) (ih (g++[(k:Int)]) (by simp;omega))))
theorem specDead_tr (rules:List Rule) (lits:List Form) (hr:RulesF rules) (hl:Form.fits lits) (hlw:Form.ws lits≤2 ^ 36):Tr (fun m=>zeu m rules lits) (zhB rules lits):=by
 refine Tr.eq (fun m=>by unfold zeu;rfl) ?_
 have hro:=l5Rules_tr rules lits (fun r h=>⟨⟨hr.pw r h,(hr.fit r h).1⟩,⟨hr.tw r h,(hr.fit r h).2⟩⟩) hl hlw
 unfold zhB
 cases hrb:zbs rules lits with
 | false =>
   rw [hrb] at hro
   have no:Tr (fun m=>zbf m rules lits ([]:List Int) 0 false) ([]:List Int):=Tr.step (fun m=>by rw [zbf,cond_false]) Tr.val
   refine Tr.step (fun m=>by rw [zaQ]) ?_
   cases decide ((0:Int) < (rules.length:Int)) with
   | false=>exact Tr.ff rfl no
   | true=>exact Tr.tt rfl (Tr.bind hro no)
 | true =>
 rw [hrb] at hro
 have hlen:=(zhc hrb).2
 have hlo:litOk lits=true:=by unfold zbs at hrb;simp only [Bool.and_eq_true] at hrb;exact hrb.2.2
 have key:=zac rules (fun k zs=>∀ g:List Int,g.length≤k→Tr (fun m=>zaQ m rules lits g (k:Int)) (g++deads lits rules k zs)) ?_ ?_ 0 (Nat.zero_le _) [] (by simp)
 ·exact key
 ·intro g hg
  rw [deads,List.append_nil]
  exact Tr.step (fun m=>by rw [zaQ,zW,cond_false]) (Tr.step (fun m=>by rw [zbf,cond_false]) Tr.val)
 ·intro k x zs hk hx hd ih g hg
  refine Tr.step (fun m=>by rw [zaQ,ltN hk,cond_true]) (Tr.bind hro (Tr.step (fun m=>by rw [zbf,cond_true]) ?_))
  have j3:∀ b,b=deadB lits (rules.take k) x→Tr (fun m=>zcw m rules lits g (k:Int) b) (g++deads lits rules k (x::zs)):=by
   intro b hb
   rw [deads,← hb]
   refine Tr.step (fun m=>by rw [zcw,zaI (by omega),zbM]) ?_
   cases b with
   | false=>exact Tr.ff rfl (ih g (by omega))
   | true =>
     rw [cond_true,← List.append_assoc]
     exact Tr.tt rfl (Tr.chk (decide_eq_true (by simp;omega)) (ih (g++[(k:Int)]) (by simp;omega)))
  have hlt:(rules.take k).length=k:=by rw [List.length_take];omega
  have inner:=zac (rules.take k) (fun j us=>(!alls (fun r=>!r.pattern.gen lits x.pattern) us)=deadB lits (rules.take k) x→Tr (fun m=>zbe m rules lits g (k:Int) false (j:Int)) (g++deads lits rules k (x::zs))) ?_ ?_ 0 (Nat.zero_le _) rfl
  ·exact inner
  ·intro hb
   rw [hlt]
   exact Tr.step (fun m=>by rw [zbe,zW,cond_false]) (Tr.step (fun m=>by rw [zbF,cond_false]) (j3 false hb))
  ·intro j y zs' hj hy hd' ihj hb
   have hjk:j < k:=by omega
   have hy2:rules[j]?=some y:=by rw [List.getElem?_take_of_lt hjk] at hy;exact hy
   refine Tr.step (fun m=>by rw [zbe,ltI (by omega:(j:Int) < (k:Int)),cond_true,Bool.not_false]) (Tr.step (fun m=>by rw [zbF,cond_true,zG hx,Option.bind_some,zG hy2,Option.bind_some]) ?_)
   refine Tr.bind (specGen_n lits hlo _ y.pattern (Nat.le_refl _) x.pattern) ?_
   rw [alls] at hb
   refine Tr.eq (fun m=>by rw [zaI (by omega),zbM]) ?_
   cases hgen:y.pattern.gen lits x.pattern with
   | false=>rw [hgen] at hb;exact ihj hb
   | true =>
     rw [hgen] at hb
     refine Tr.step (fun m=>by rw [zbe,Bool.not_true]) ?_
     exact Tr.step (fun m=>by rw [zbF,cond_false];cases decide (((j+1:Nat):Int) < (k:Int))<;>rfl) (j3 true hb)
end Go.Abs
end
section
set_option linter.unusedVariables false
set_option linter.unusedSimpArgs false
namespace Go.Abs
theorem fnd_of {α:Type} {D:α→Bool}:∀ {l:List α} {k i:Nat} {x:α},l[i]?=some x→D x=true→(∀ y∈l.take i,D y=false)→fnd D l k=((k+i:Nat):Int)
 | [],k,i,x,h,_,_=>by simp at h
 | z::l,k,0,x,h,hx,_=>by
   simp at h;subst h
   rw [fnd,hx,cond_true];rfl
 | z::l,k,i+1,x,h,hx,hy=>by
   rw [fnd,hy z (by simp),cond_false,fnd_of (i:=i) (x:=x) (by simpa using h) hx (fun y hm=>hy y (by simp [hm]))]
   congr 1;omega
theorem firstR_of {bs:List Bind} {rules:List Rule} {lits:List Form} {f:Form} {i:Nat} {r:Rule} (hb:bvOk bs=true) (hr:zbs rules lits=true) (hf:f.valid=true) (h:rules[i]?=some r) (hm:ruleM bs lits f r=true) (he:∀ y∈rules.take i,ruleM bs lits f y=false):zhP bs rules lits f=((i:Int),true):=by
 unfold zhP fstR
 rw [hb,hr,hf,fnd_of h hm he]
 rw [Nat.zero_add,Bool.and_self,Bool.and_self,cond_true,decide_eq_true (by omega),cond_true]
theorem firstR_no {bs:List Bind} {rules:List Rule} {lits:List Form} {f:Form} (hb:bvOk bs=true) (hr:zbs rules lits=true) (hf:f.valid=true) (h:zhP bs rules lits f=(0,false)):∀ r∈rules,ruleM bs lits f r=false:=by
 unfold zhP at h
 rw [hb,hr,hf,Bool.and_self,Bool.and_self,cond_true] at h
 rcases fstR_cases (ruleM bs lits f) rules with ⟨_,h2⟩ | ⟨i,x,h1,_⟩
 ·exact h2
 ·rw [h1] at h;simp at h
theorem rulesOk_sub {rules rs:List Rule} {lits:List Form} (h:zbs rules lits=true) (hs:∀ r∈rs,r∈rules) (hl:rs.length≤rules.length):zbs rs lits=true:=by
 have h1:=zhc h
 have h2:litOk lits=true:=by unfold zbs at h;simp only [Bool.and_eq_true] at h;exact h.2.2
 unfold zbs
 rw [h2,decide_eq_true (by omega),Bool.and_self,Bool.and_true,zc7]
 exact fun r hr=>h1.1 r (hs r hr)
theorem RulesF.sub {rules rs:List Rule} (h:RulesF rules) (hs:∀ r∈rs,r∈rules):RulesF rs:=⟨fun r hr=>h.fit r (hs r hr),fun r hr=>h.pw r (hs r hr),fun r hr=>h.tw r (hs r hr)⟩
section
variable (code:List Int) (hc:∀ x∈code,0≤x∧x < 256)
include hc
end
def zh9 (dead:List Int):Nat→List Rule→List Rule
 | _,[]=>[]
 | k,x::xs=>bif anys (fun a=>decide (a=(k:Int))) dead then zh9 dead (k+1) xs else x::zh9 dead (k+1) xs
theorem lives_sub (dead:List Int):∀ (zs:List Rule) (k:Nat),(∀ y∈zh9 dead k zs,y∈zs)∧(zh9 dead k zs).length≤zs.length
 | [],k=>by rw [zh9];exact ⟨fun y hy=>hy,Nat.le_refl _⟩
 | x::xs,k=>by
   have ih:=lives_sub dead xs (k+1)
   rw [zh9]
   cases anys (fun a=>decide (a=(k:Int))) dead with
   | true=>exact ⟨fun y hy=>by rw [cond_true] at hy;exact List.mem_cons_of_mem _ (ih.1 y hy),by rw [cond_true,List.length_cons];omega⟩
   | false =>
     rw [cond_false]
     refine ⟨fun y hy=>?_,by rw [List.length_cons,List.length_cons];omega⟩
     rcases List.mem_cons.1 hy with rfl | hy
     ·simp
     ·exact List.mem_cons_of_mem _ (ih.1 y hy)
theorem lives_nil:∀ (zs:List Rule) (k:Nat),zh9 [] k zs=zs
 | [],k=>rfl
 | x::xs,k=>by rw [zh9,lives_nil xs (k+1)];rfl
theorem lives_first {dead:List Int} {D:Rule→Bool}:∀ {zs:List Rule} {k i:Nat} {r:Rule},zs[i]?=some r→anys (fun a=>decide (a=((k+i:Nat):Int))) dead=false→(∀ y∈zs.take i,D y=false)→∃ j,(zh9 dead k zs)[j]?=some r∧∀ y∈(zh9 dead k zs).take j,D y=false
 | [],k,i,r,h,_,_=>by simp at h
 | x::xs,k,0,r,h,hd,_=>by
   simp at h;subst h
   rw [Nat.add_zero] at hd
   rw [zh9,hd,cond_false]
   exact ⟨0,rfl,fun y hy=>by cases hy⟩
 | x::xs,k,i+1,r,h,hd,hD=>by
   obtain ⟨j,h1,h2⟩:=lives_first (zs:=xs) (k:=k+1) (i:=i) (D:=D) (by simpa using h) (by rw [show k+1+i=k+(i+1) by omega];exact hd) (fun y hy=>hD y (by simp [hy]))
   rw [zh9]
   cases anys (fun a=>decide (a=(k:Int))) dead with
   | true=>exact ⟨j,h1,h2⟩
   | false =>
     refine ⟨j+1,by simpa using h1,fun y hy=>?_⟩
     rw [cond_false,List.take_succ_cons] at hy
     rcases List.mem_cons.1 hy with rfl | hy
     ·exact hD _ (by simp)
     ·exact h2 y hy
theorem deads_ge {lits:List Form} {rules:List Rule}:∀ {zs:List Rule} {k:Nat},∀ a∈deads lits rules k zs,(k:Int)≤a
 | [],k,a,h=>by rw [deads] at h;cases h
 | x::xs,k,a,h=>by
   rw [deads,List.mem_append] at h
   rcases h with h | h
   ·cases hd:deadB lits (rules.take k) x with
    | false=>rw [hd] at h;cases h
    | true=>rw [hd,cond_true,List.mem_singleton] at h;omega
   ·have:=deads_ge (zs:=xs) (k:=k+1) a h;omega
theorem deadR_pos (rules:List Rule) (lits:List Form):∀ a∈zhB rules lits,0 < a:=by
 intro a ha
 unfold zhB at ha
 cases hr:zbs rules lits with
 | false=>rw [hr] at ha;cases ha
 | true =>
   rw [hr,cond_true] at ha
   cases rules with
   | nil=>rw [deads] at ha;cases ha
   | cons x xs =>
     rw [deads,List.mem_append] at ha
     rcases ha with ha | ha
     ·rw [show deadB lits ((x::xs).take 0) x=false from rfl] at ha;cases ha
     ·have:=deads_ge a ha;omega
theorem first_live {rules:List Rule} {lits:List Form} {f:Form} {i:Nat} {r:Rule} {h:List Hit} (g1:rules[i]?=some r) (g2:r.pattern.mt [] lits f=some h) (g4:zbs rules lits=true) (g6:∀ y∈rules.take i,ruleM [] lits f y=false):anys (fun a=>decide (a=(i:Int))) (zhB rules lits)=false:=by
 rw [← Bool.not_eq_true,anys_iff]
 rintro ⟨a,ha,he⟩
 have ha2:=of_decide_eq_true he
 subst ha2
 unfold zhB at ha
 rw [g4,cond_true] at ha
 obtain ⟨j,x,q1,q2,q3⟩:=mem_deads ha
 have:i=j:=by omega
 subst this
 rw [g1] at q2;cases q2
 unfold deadB at q3
 rw [Bool.not_eq_true',← Bool.not_eq_true,zc7] at q3
 refine q3 (fun y hy=>?_)
 cases hgn:y.pattern.gen lits r.pattern with
 | false=>rfl
 | true =>
   have:=gen_mt [] lits _ _ f hgn (by rw [g2];rfl)
   have h6:=g6 y hy
   unfold ruleM at h6
   rw [this] at h6;cases h6
theorem mxIn_tr (l:List Int) (i:Int):Tr (fun m=>zhf m l i) (anys (fun a=>decide (a=i)) l):=by
 refine Tr.eq (fun m=>by unfold zhf;rfl) ?_
 exact loop_any (xs:=l) (L:=fun m k=>zdM m l i k) (E:=fun m a=>some (decide (a=i))) (fun m k=>by rw [zdM];rfl) (fun a _=>Tr.val)
theorem apply_live (rules:List Rule) (lits:List Form) (f:Form):applyR [] (zh9 (zhB rules lits) 0 rules) lits f=applyR [] rules lits f:=by
 cases hr:zbs rules lits with
 | false =>
   have:zhB rules lits=[]:=by unfold zhB;rw [hr];rfl
   rw [this,lives_nil]
 | true =>
   obtain ⟨s1,s2⟩:=lives_sub (zhB rules lits) rules 0
   have hl:=rulesOk_sub hr s1 s2
   rcases firstR_cases [] rules lits f with e | ⟨i,r,h,e,h1,hm,g1,g2,g3,g4⟩
   ·rcases firstR_cases [] (zh9 (zhB rules lits) 0 rules) lits f with e2 | ⟨j,x,h,e2,q1,qm,q2,q3,q4,_⟩
    ·rw [applyR_none e,applyR_none e2]
    ·have:=firstR_no q2 hr q4 e x (s1 x (List.mem_of_getElem? q1))
     unfold ruleM at this
     rw [qm] at this;cases this
   ·obtain ⟨j,q1,q2⟩:=lives_first (dead:=zhB rules lits) (D:=ruleM [] lits f) (k:=0) h1 (by rw [Nat.zero_add];exact first_live h1 hm g2 g4) g4
    have hM:ruleM [] lits f r=true:=by unfold ruleM;rw [hm];rfl
    rw [applyR_some e h1 hm,applyR_some (firstR_of g1 hl g3 q1 hM q2) q1 hm]
theorem DrawDead_len (code:List Int) (hc:∀ x∈code,0≤x∧x < 256):TQ (fun m=>zcZ m code) (fun r=>RulesF r.1∧Form.ws r.2≤400∧Form.fits r.2∧r.1.length≤1000):=by
 refine TQ.eq (fun m=>by unfold zcZ;rfl) ?_
 refine TQ.bind (l5Case_tq code hc) (fun c hcc=>TQ.bind (open_tq code hc) (fun o ho=>TQ.bind (zf1 o _ _ ho (by omega)) (fun v hv=>?_)))
 have w1:=hv.1
 have hlen:=hcc.len
 refine TQ.cond (fun _=>?_) (fun _=>TQ.val ⟨hcc.rf,hcc.lw,hcc.lf,by show c.2.1.length≤1000;omega⟩)
 refine TQ.bind (zf1 _ _ _ w1 (by omega)) (fun w hw=>?_)
 obtain ⟨_,_,h2,_⟩:=hw
 obtain ⟨h2,h3⟩:=h2 (by have:=hcc.ne;omega)
 refine TQ.idx h2 h3 (fun x hx=>TQ.chk (decide_eq_true (by simp;omega)) (TQ.val ?_))
 have hall:∀ y∈c.2.1++[x],DrR 200 y:=fun y hy=>by
  rcases List.mem_append.1 hy with hy | hy
  ·exact hcc.r y hy
  ·rw [List.mem_singleton.1 hy];exact hcc.r x hx
 exact ⟨⟨fun y hy=>⟨(hall y hy).p.fit,(hall y hy).t.fit⟩,fun y hy=>by have:=(hall y hy).p.w;omega,fun y hy=>by have:=(hall y hy).t.w;omega⟩,hcc.lw,hcc.lf,by rw [List.length_append,List.length_singleton];omega⟩
theorem FnDeadTwice_law (c1 c2:List Int) (C1:∀ x∈c1,0≤x∧x < 256) (C2:∀ x∈c2,0≤x∧x < 256):TQ (fun m=>zeX m c1 c2) (fun r=>r=true):=by
 have ex:TQ (fun m=>zba m c1 c2 true) (fun r=>r=true):=TQ.step (fun m=>by rw [zba,cond_true]) (TQ.val rfl)
 refine TQ.eq (fun m=>by unfold zeX;rfl) (TQ.cond (fun _=>ex) (fun _=>?_))
 cases decide (1048576 < (c2.length:Int)) with
 | true=>exact ex
 | false =>
 refine TQ.step (fun m=>by rw [zba,cond_false]) (TQ.bind (DrawDead_len c1 C1) (fun c hcc=>?_))
 obtain ⟨rules,lits⟩:=c
 obtain ⟨h1,h2,h3,h4⟩:=hcc
 replace h1:RulesF rules:=h1
 replace h2:Form.ws lits≤400:=h2
 replace h3:Form.fits lits:=h3
 refine TQ.ev (implDead_tr rules lits h1 h3) (TQ.ev (specDead_tr rules lits h1 h3 (by omega)) (TQ.ev (mxInts_tr _ _) ?_))
 rw [zhb]
 refine TQ.cond (fun h=>by cases h) (fun _=>TQ.bind (DrawFirstRule_tq c2 C2) (fun d hdd=>TQ.same ?_))
 obtain ⟨bs,r2,l2,f⟩:=d
 have hff:f.fit:=hdd.2.f.fit
 have hrl:rules.length≤1000:=h4
 have nb:∀ b∈([]:List Bind),b.fit:=fun b hb=>by cases hb
 have fin:Tr (fun m=>zb6 m (rules,lits) (zhB rules lits) (bs,r2,l2,f) (zh9 (zhB rules lits) 0 rules)) true:=by
  refine Tr.step (fun m=>by rw [zb6]) (Tr.bind (implApply_tr [] rules lits f nb (by simp) h1 h3 hff) (Tr.bind (implApply_tr [] _ lits f nb (by simp) (h1.sub (lives_sub _ rules 0).1) h3 hff) ?_))
  rw [apply_live]
  refine Tr.tt (decide_eq_true rfl) (Tr.bind (zbZ _ _) ?_)
  rw [zhb]
  refine Tr.tt rfl ?_
  have hp:=deadR_pos rules lits
  cases hdr:zhB rules lits with
  | nil=>exact Tr.tt (by simp) Tr.val
  | cons a as =>
    rw [hdr] at hp
    refine Tr.ff (decide_eq_false (by rw [List.length_cons];omega)) (Tr.of (fun m=>?_))
    rw [show idx (a::as) 0=some a from rfl,Option.bind_some,decide_eq_true (hp a (by simp))]
 have key:=zac rules (fun k zs=>∀ g:List Rule,g.length≤k→g++zh9 (zhB rules lits) k zs=zh9 (zhB rules lits) 0 rules→Tr (fun m=>zaL m (rules,lits) (zhB rules lits) (bs,r2,l2,f) g (k:Int)) true) ?_ ?_ 0 (Nat.zero_le _) [] (by simp) (by simp)
 ·exact key
 ·intro g hg he
  rw [zh9,List.append_nil] at he
  subst he
  exact Tr.step (fun m=>by rw [zaL,zW,cond_false]) fin
 ·intro k x zs hk hx hd ih g hg he
  rw [zh9] at he
  refine Tr.step (fun m=>by rw [zaL,ltN hk,cond_true]) (Tr.bind (mxIn_tr _ _) ?_)
  cases ha:anys (fun a=>decide (a=(k:Int))) (zhB rules lits) with
  | true =>
    rw [ha,cond_true] at he
    exact Tr.ff rfl (Tr.eq (fun m=>by rw [zbM]) (ih g (by omega) he))
  | false =>
    rw [ha,cond_false] at he
    refine Tr.tt rfl (Tr.eq (fun m=>by rw [zG hx,Option.bind_some]) (Tr.chk (decide_eq_true (by simp;omega)) (Tr.eq (fun m=>by rw [zbM]) (ih (g++[x]) (by simp;omega) (by rw [List.append_assoc];exact he)))))
end Go.Abs
end
