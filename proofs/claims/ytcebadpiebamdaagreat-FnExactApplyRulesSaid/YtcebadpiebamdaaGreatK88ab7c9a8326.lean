/- A part of the proof: what the functions that the law calls answer, as pure values. -/
import Derived.Deep.LoopGhost
import Derived.Test.YtcebadpiebamdaaGreatK50747cd58e6b
set_option linter.unusedSimpArgs false
set_option linter.unusedVariables false
section
set_option linter.unusedSimpArgs false
set_option linter.unusedVariables false
namespace Go.Abs
mutual
theorem V.ren_id:∀ (v:V),v.ren (fun k=>k)=v
 | .rf _ _=>rfl
 | .re _ _ _ _=>rfl
 | .ar _=>rfl
 | .t _=>rfl
 | .nl=>rfl
 | .pe _=>rfl
 | .jk=>rfl
 | .ze=>rfl
 | .sn _ _=>rfl
 | .ag cs=>by rw [V.ren,V.renL_id cs]
 | .tp cs=>by rw [V.ren,V.renL_id cs]
 | .fn f cs=>by rw [V.ren,V.renL_id cs]
theorem V.renL_id:∀ (vs:List V),V.renL (fun k=>k) vs=vs
 | []=>rfl
 | v::vs=>by rw [V.renL,V.ren_id v,V.renL_id vs]
end
theorem Ob.ren_id (o:Ob):o.ren (fun k=>k)=o:=by cases o<;>simp [Ob.ren,V.renL_id]
section
variable {P:Program} {C:Cx} {n:Nat}
theorem Mem.restrict {m:Nat->Ob} {w:World} {G:Im} {X:Xm} (h:Mem P C m w G X) (ob:List Nat) (hC:∀ k,C.X0 k≠none->k∈ob) (hob:∀ k∈ob,∀ j∈(m k).ids,j∈ob) :
  Mem P C (fun k=>if k∈ob then m k else .no) w G (fun k=>if k∈ob then X k else none):=by
 have f:∀ k x,(if k∈ob then X k else none)=some x->k∈ob/\X k=some x:=fun k x hx=>by
  split at hx
  ·rename_i hk;exact ⟨hk,hx⟩
  ·cases hx
 refine ⟨h.gle,h.gold,h.gok,h.keeps,?_,?_,?_,?_,?_,fun k y hk=>by rw [if_pos (hC k (by rw [hk];simp))];exact h.old k y hk⟩
 ·intro k x hx;obtain ⟨hk,hx⟩:=f k x hx;simp only [if_pos hk];have:=h.ob k x hx;rw [<- Ob.ren_id (m k)];exact Ob.Ok_ren (fun j hj y hy=>by simp only [if_pos (hob k hk j hj)];exact hy) this
 ·intro k;split
  ·exact h.free k
  ·simp
 ·intro k k' x x' b hx hx' hb hb';obtain ⟨hk,hx⟩:=f k x hx;obtain ⟨hk',hx'⟩:=f k' x' hx';simp only [if_pos hk] at hb;simp only [if_pos hk'] at hb';exact h.apart k k' x x' b hx hx' hb hb'
 ·intro k x b hx hb;obtain ⟨hk,hx⟩:=f k x hx;simp only [if_pos hk] at hb;exact h.mine k x b hx hb
 ·intro k x hx;exact h.cell k x (f k x hx).2
theorem V.Is.restrict {G:Im} {X:Xm} {ob:List Nat} {v:V} {x:Value} (h:∀ k∈v.ids,k∈ob) (hi:V.Is G X v x):V.Is G (fun k=>if k∈ob then X k else none) v x:=by
 have:=V.Is.ren (q:=fun k=>k) (Y:=fun k=>if k∈ob then X k else none) v x (fun k hk y hy=>by simp only [if_pos (h k hk)];exact hy) hi
 rwa [V.ren_id] at this
def zqo (P:Program) (C:Cx) (n:Nat) (st st':St):Prop:=∀ a w,Rel P C n st a w->Rel P C n st' a w
def AWP (P:Program) (C:Cx) (n:Nat) (c:Code) (Q:Exit->St->Prop) (st:St):Prop :=
 ∀ a w,Rel P C n st a w->c.wp P (fun e a' w'=>∃ st',Q e st'/\Rel P C n st' a' w') a w
def Thn (P:Program) (C:Cx) (n:Nat) (y:Code) (Q:Exit->St->Prop):Exit->St->Prop
 | .normal,st=>AWP P C n y Q st
 | e,st=>Q e st
def InB (id:Nat) (Q:Exit->St->Prop):Exit->St->Prop
 | .exit id',st=>if id'=id then Q .normal st else Q (.exit id') st
 | e,st=>Q e st
variable {Q:Exit->St->Prop} {st:St}
theorem lX {c:Code} {st':St} (hw:zqo P C n st st') (h:AWP P C n c Q st'):AWP P C n c Q st:=fun a w hR=>h a w (hw a w hR)
theorem eV (h:Q .normal st):AWP P C n .skip Q st:=fun a w hR=>wp_skip ⟨st,h,hR⟩
theorem bQ (h:Q .ret st):AWP P C n .ret Q st:=fun a w hR=>wp_ret ⟨st,h,hR⟩
theorem zj1 {id:Nat} (h:Q (.exit id) st):AWP P C n (.exit id) Q st:=fun a w hR=>wp_exit ⟨st,h,hR⟩
theorem cG {x y:Code} (h:AWP P C n x (Thn P C n y Q) st):AWP P C n (.seq x y) Q st:=fun a w hR=>wp_seq (wp_mono (h a w hR) (by
 rintro e a' w' ⟨st',hq,hR'⟩;cases e with
 | normal=>exact hq a' w' hR'
 | _=>exact ⟨st',hq,hR'⟩))
theorem iF {id:Nat} {c:Code} (h:AWP P C n c (InB id Q) st):AWP P C n (.block id c) Q st:=fun a w hR=>wp_block (wp_mono (h a w hR) (by
 rintro e a' w' ⟨st',hq,hR'⟩;cases e with
 | exit id' =>
   simp only [InB] at hq;simp only [Exit.inBlock];split at hq
   ·rename_i h;rw [if_pos h];exact ⟨st',hq,hR'⟩
   ·rename_i h;rw [if_neg h];exact ⟨st',hq,hR'⟩
 | _=>exact ⟨st',hq,hR'⟩))
theorem zp0 {c:Operand} {b:Bool} (hc:ev n st.s c=.t (.sc (.bool b))) {a:Act} {w:World} (hR:Rel P C n st a w):a.eval c=.bool b:=by
 obtain ⟨G,X,hM,hd,hs,ht⟩:=hR;have:=Rel.evs ht c;rw [hc,V.Is,T.Is] at this;exact this
theorem znj {c:Operand} {x y:Code} {b:Bool} (hc:ev n st.s c=.t (.sc (.bool b))) (h1:b=true->AWP P C n x Q st) (h2:b=false->AWP P C n y Q st):AWP P C n (.cond c x y) Q st:=fun a w hR=>by
 refine wp_cond_split (zp0 hc hR) (fun hb=>h1 hb a w hR) (fun hb=>h2 hb a w hR)
theorem sI {c:Operand} {x y:Code} (hc:ev n st.s c=.t (.sc (.bool true))) (h:AWP P C n x Q st):AWP P C n (.cond c x y) Q st:=znj hc (fun _=>h) (fun h=>by cases h)
theorem vS {c:Operand} {x y:Code} (hc:ev n st.s c=.t (.sc (.bool false))) (h:AWP P C n y Q st):AWP P C n (.cond c x y) Q st:=znj hc (fun h=>by cases h) (fun _=>h)
def Run (P:Program) (n:Nat) (ops:Array Oper) (K:List (Nat × Oper × Ev)->St->Prop):List (Oper × Nat)->List (Nat × Oper × Ev)->St->Prop
 | [],acc,st=>K acc st
 | (o,i)::r,acc,st=>∃ e,zrt P n ops o st e/\Run P n ops K r ((i,o,e)::acc) (st.put o.dst e.v e.u)
theorem zhv {ops:Array Oper} {K:List (Nat × Oper × Ev)->St->Prop}:∀ {l:List (Oper × Nat)} {acc:List (Nat × Oper × Ev)} {st:St},(∀ o i,(o,i)∈l->ops[i]?=some o)->Run P n ops K l acc st ->
  ∃ ch st',zfJ P n ops st ch st'/\ch.map (·.1)=l.map (·.2)/\K (ch.reverse++acc) st'
 | [],acc,st,_,h=>⟨[],st,.nil st,rfl,h⟩
 | (o,i)::r,acc,st,hl,h=>by
   obtain ⟨e,hd,h⟩:=h;obtain ⟨ch,st',h1,h2,h3⟩:=zhv (fun o i hoi=>hl o i (by simp [hoi])) h;exact ⟨(i,o,e)::ch,st',.cons (hl o i (by simp)) hd h1,by simp [h2],by simpa using h3⟩
theorem zi4 {ops:Array Oper}:∀ o i,(o,i)∈ops.toList.zipIdx->ops[i]?=some o:=fun o i h=>by
 rw [List.mem_zipIdx_iff_getElem?] at h;simpa using h
theorem zi3 (ops:Array Oper):ops.toList.zipIdx.map (·.2)=List.range ops.size:=by
 rw [List.zipIdx_map_snd,<- List.range_eq_range'];simp
theorem bX {id:Nat} {ops:Array Oper} (h:Run P n ops (fun _ st'=>Q .normal st') ops.toList.zipIdx [] st):AWP P C n (.region id ops false) Q st:=fun a w hR=>by
 obtain ⟨ch,st',h1,h2,h3⟩:=zhv zi4 h;exact zmb h1 (by rw [h2,zi3]) (fun a w hR=>⟨st',h3,hR⟩) hR
theorem qX (hmix:P.follows .mixedOrders=true) {id:Nat} {ops:Array Oper} (hback:zdJ ops=true) (h:Run P n ops (fun acc st'=>zfH ops (Region.before ops) acc.reverse=true/\Q .normal st') ops.toList.zipIdx [] st):AWP P C n (.region id ops true) Q st:=fun a w hR=>by
 obtain ⟨ch,st',h1,h2,h3⟩:=zhv zi4 h;simp only [List.append_nil,List.reverse_reverse] at h3;exact znM hmix h1 (by rw [h2,zi3]) hback h3.1 (fun a w hR=>⟨st',h3.2,hR⟩) hR
section run
variable {ops:Array Oper} {K:List (Nat × Oper × Ev)->St->Prop} {r:List (Oper × Nat)} {acc:List (Nat × Oper × Ev)} {o:Oper} {i:Nat}
theorem ztc {v:V} {u:List (Nat × Ob)} (hg:aL n ops o st=some true) (h:lB P (jT o) (ev n st.s) st.m o.op=some (v,u)) (hr:Run P n ops K r ((i,o,⟨v,u,jI (jT o) (ev n st.s) o.op⟩)::acc) (st.put o.dst v u)) :
  Run P n ops K ((o,i)::r) acc st:=⟨_,.inr (.inl ⟨hg,⟨v,h,VLe.refl v⟩,rfl⟩),hr⟩
theorem zso {v0 v:V} {u:List (Nat × Ob)} (hg:aL n ops o st=some true) (h:lB P (jT o) (ev n st.s) st.m o.op=some (v0,u)) (hle:VLe v0 v) (hr:Run P n ops K r ((i,o,⟨v,u,jI (jT o) (ev n st.s) o.op⟩)::acc) (st.put o.dst v u)) :
  Run P n ops K ((o,i)::r) acc st:=⟨_,.inr (.inl ⟨hg,⟨v0,h,hle⟩,rfl⟩),hr⟩
theorem zF {e:Ev} (hg:aL n ops o st=some true) (h:zpp P n o st e) (hr:Run P n ops K r ((i,o,e)::acc) (st.put o.dst e.v e.u)):Run P n ops K ((o,i)::r) acc st:=⟨e,.inr (.inr (.inr ⟨hg,h⟩)),hr⟩
theorem zsn (hg:aL n ops o st=some true) {t:TypeId} {a x:Operand} {k j sz off d:Nat} {es:List (List T)} {ee:TypeId} {rw:List T} (ho:o.op=.store t a x) (ha:ev n st.s a=.re k j sz off) (hx:ev n st.s x=.ar d) (hm:st.m k=.dar es ee) (hr:es[j]?=some rw) (hj:rw[off]?=some .any) (hes:kG P ee=some sz) (hsz:kG P t=some 1)
  (hK:Run P n ops K r ((i,o,⟨.jk,[(k,.dah es ee [(j,off,d)])],[k]⟩)::acc) (st.put o.dst .jk [(k,.dah es ee [(j,off,d)])])):Run P n ops K ((o,i)::r) acc st :=
 zF hg (fun s' m' h1 h2 C G X w ρ hM hE=>by
  have ha':=hE a;have hx':=hE x;rw [h1 a (by rw [ho];simp [Op.operands]),ha] at ha';rw [h1 x (by rw [ho];simp [Op.operands]),hx] at hx';exact zj6 hM (by rw [h2 k (by simp)];exact hm) hes hr hj hsz ho ha' hx') hK
theorem ztd (hg:aL n ops o st=some false) (hr:Run P n ops K r ((i,o,⟨.tp [],[],[]⟩)::acc) (st.put o.dst (.tp []) [])):Run P n ops K ((o,i)::r) acc st:=⟨_,.inl ⟨hg,rfl⟩,hr⟩
theorem zmU (hg:aL n ops o st=some true) {c:Call} {fop:Operand} {f:FuncId} {caps:List V} (ks:List Nat) (D:List (Nat × Nat)) {cargs:List V} {os os':Nat->Ob} {rv:V} (ho:o.op=.call c) (hc:c.callee=.value fop) (hf:ev n st.s fop=.fn f caps) (hAC:AC P f cargs os rv os')
  (hD1:(D.map (·.1)).Nodup) (hD2:(D.map (·.2)).Nodup) (hp:zaR (app st.m (fzU st.m ks)) (qOf D) ks os (c.args.toList.map (ev n st.s)++caps) cargs) (hdom:∀ k,os k≠.no->k∈D.map (·.1)) (hdom':∀ k,os' k≠.no->k∈D.map (·.1))
  (hos:∀ p∈D,os p.1≠.no->app st.m (fzU st.m ks) p.2=(os p.1).ren (qOf D)/\∀ k∈(os p.1).ids,os k≠.no) (hnew:∀ p∈D,os p.1=.no->app st.m (fzU st.m ks) p.2=.no/\os' p.1≠.no)
  (hr:Run P n ops K r ((i,o,⟨rv.ren (qOf D),fzU st.m ks++zbQ os' (qOf D) D,jI 0 (ev n st.s) o.op++ks++D.map (·.2)⟩)::acc) (st.put o.dst (rv.ren (qOf D)) (fzU st.m ks++zbQ os' (qOf D) D))) :
  Run P n ops K ((o,i)::r) acc st :=
 ⟨_,.inr (.inr (.inl ⟨hg,c,fop,f,caps,ks,D,cargs,os,os',rv,ho,hc,hf,hAC,hD1,hD2,hp,hdom,hdom',hos,hnew,rfl⟩)),hr⟩
def aZ:Nat->Ob:=fun _=>.no
theorem run_pure (hg:aL n ops o st=some true) {c:Call} {fop:Operand} {f:FuncId} {caps:List V} (ks:List Nat) {cargs:List V} {rv:V} (ho:o.op=.call c) (hc:c.callee=.value fop) (hf:ev n st.s fop=.fn f caps) (hAC:AC P f cargs aZ rv aZ)
  (hp:zaR (app st.m (fzU st.m ks)) (fun k=>k) ks aZ (c.args.toList.map (ev n st.s)++caps) cargs)
  (hr:Run P n ops K r ((i,o,⟨rv,fzU st.m ks,jI 0 (ev n st.s) o.op++ks⟩)::acc) (st.put o.dst rv (fzU st.m ks))):Run P n ops K ((o,i)::r) acc st:=by
 have hq:qOf []=fun k=>k:=by funext k;rfl
 refine zmU hg ks [] ho hc hf hAC (by simp) (by simp) (by rw [hq];exact hp) (fun k h=>absurd rfl h) (fun k h=>absurd rfl h) (fun p hp=>by simp at hp) (fun p hp=>by simp at hp) ?_;rw [hq,V.ren_id];simpa [zbQ] using hr
end run
def zB (P:Program) (n:Nat) (st:St):List ResultVar->Option (List V)
 | []=>some []
 | .tmp t::r=>match zB P n st r with
   | some vs=>some (ev n st.s (.tmp t)::vs)
   | none=>none
 | .cell a t::r=>match oD st.m (ev n st.s (.tmp a)) with
   | some cells=>match zcy P t cells,zB P n st r with
     | some v,some vs=>some (v::vs)
     | _,_=>none
   | none=>none
def zmN:List V->V
 | [v]=>v
 | vs=>.tp vs
def zmD (tmps:Array Value):ResultVar->Sem Value
 | .tmp t=>pure (tmps.getD t undef)
 | .cell a t=>do loadVar t (<- asAddr (tmps.getD a undef))
theorem znL (fn:Func) (tmps:Array Value):results fn tmps=(do
  let vs <- fn.results.mapM (zmD tmps)
  pure (if h:vs.size=1 then vs[0] else .tuple vs)):=by
 unfold results;congr 1
theorem zpA {C:Cx} {fn:Func} {st:St} {a:Act} {w:World} {G:Im} {X:Xm} (hM:Mem P C st.m w G X) (ht:∀ t,t < n->V.Is G X (st.s t) (a.eval (.tmp t))) {vs:List V} (h:zB P n st fn.results.toList=some vs) :
  ∃ y,(results fn a.tmps).run P w=.ok y w/\V.Is G X (zmN vs) y:=by
 have key:∀ (l:List ResultVar) (vs:List V),zB P n st l=some vs->∃ ys:List Value,(l.mapM (zmD a.tmps)).run P w=.ok ys w/\V.IsL G X vs ys:=by
  intro l;induction l with
  | nil=>intro vs h;simp [zB] at h;subst h;exact ⟨[],by simp,by rw [V.IsL]⟩
  | cons x l ih =>
    intro vs h;cases x with
    | tmp t =>
      simp only [zB] at h;cases hr:zB P n st l with
      | none=>rw [hr] at h;simp at h
      | some vs' =>
        rw [hr] at h;simp at h;subst h;obtain ⟨ys,h1,h2⟩:=ih vs' hr;exact ⟨a.eval (.tmp t)::ys,by simp only [List.mapM_cons,Sem.run_bind,zmD,Sem.run_pure,Result.andThen_ok,h1,Act.eval],by rw [V.IsL];exact ⟨_,_,rfl,Rel.evs ht (.tmp t),h2⟩⟩
    | cell b t =>
      simp only [zB] at h;cases hc:oD st.m (ev n st.s (.tmp b)) with
      | none=>rw [hc] at h;simp at h
      | some cells =>
        rw [hc] at h;simp only at h;cases hv:zcy P t cells with
        | none=>rw [hv] at h;simp at h
        | some v =>
          cases hr:zB P n st l with
          | none=>rw [hv,hr] at h;simp at h
          | some vs' =>
            rw [hv,hr] at h;simp at h;subst h;obtain ⟨ys,h1,h2⟩:=ih vs' hr;obtain ⟨blk,off,cur,e,fr,hx,hw,hat⟩:=zjt hM hc (Rel.evs ht (.tmp b));obtain ⟨y,hy,hi⟩:=z8 hv hw hat;have hx':a.tmps.getD b undef=.pointer (some ⟨blk,off,none⟩):=hx;refine ⟨y::ys,?_,by rw [V.IsL];exact ⟨_,_,rfl,hi,h2⟩⟩;simp only [Instr.loadAt,Instr.sureAddr,Sem.run_bind,Sem.run_pure,Result.andThen_ok] at hy;simp only [List.mapM_cons,Sem.run_bind,zmD,hx',asAddr,Sem.run_pure,Result.andThen_ok,hy,h1]
 obtain ⟨ys,h1,h2⟩:=key _ vs h;have hl:=h2.length;rw [znL,Array.mapM_eq_mapM_toList];simp only [Sem.run_bind,Sem.run_map,h1,Result.andThen_ok,Sem.run_pure];refine ⟨_,rfl,?_⟩
 match vs,ys,h2,hl with
 | [],[],_,_=>simp [zmN,V.Is,V.IsL]
 | [v],[y],h2,_ =>
   rw [V.IsL] at h2;obtain ⟨y',ys',he,h3,_⟩:=h2;simp at he;obtain ⟨rfl,_⟩:=he;simpa [zmN] using h3
 | v1::v2::vs,y1::y2::ys,h2,_=>simp only [zmN];rw [V.Is];exact ⟨_,by simp,h2⟩
def zkr (m:Nat->Ob) (ks:List Nat) (v r:V):Prop :=
 v=r∨(∃ t,toT m v=some t/\r=.t t/\∀ k∈fz v,k∈ks)∨(∃ vs ts,v=.ag vs/\zaC m vs=some ts/\r=.ag (ts.map .t)/\∀ k∈vs.flatMap fz,k∈ks)
def zcB (m:Nat->Ob) (ks:List Nat):List V->List V->Prop
 | [],[]=>True
 | v::vs,r::rs=>zkr m ks v r/\zcB m ks vs rs
 | _,_=>False
theorem zkr.is {C:Cx} {m:Nat->Ob} {w:World} {G:Im} {X:Xm} (hM:Mem P C m w G X) {ks:List Nat} (hun:∀ k∈ks,zit m k) {v r:V} {x:Value} (h:zkr m ks v r) (hi:V.Is G X v x):V.Is G X r x:=by
 rcases h with rfl | h | h
 ·exact hi
 ·exact zot.is hM (q:=fun k=>k) (os:=aZ) (.inr (.inl h)) hun (fun k hk=>absurd rfl hk) hi
 ·exact zot.is hM (q:=fun k=>k) (os:=aZ) (.inr (.inr h)) hun (fun k hk=>absurd rfl hk) hi
theorem zcB.is {C:Cx} {m:Nat->Ob} {w:World} {G:Im} {X:Xm} (hM:Mem P C m w G X) {ks:List Nat} (hun:∀ k∈ks,zit m k):∀ {vs rs:List V} {xs:List Value},zcB m ks vs rs->V.IsL G X vs xs->V.IsL G X rs xs
 | [],[],_,_,h=>h
 | v::vs,r::rs,xs,h,hi=>by
   rw [V.IsL] at hi ⊢;obtain ⟨y,ys,h1,h2,h3⟩:=hi;exact ⟨y,ys,h1,zkr.is hM hun h.1 h2,zcB.is hM hun h.2 h3⟩
 | [],_::_,_,h,_=>h.elim
 | _::_,[],_,h,_=>h.elim
theorem zcB.length {m:Nat->Ob} {ks:List Nat}:∀ {vs rs:List V},zcB m ks vs rs->vs.length=rs.length
 | [],[],_=>rfl
 | v::vs,r::rs,h=>by simp [zcB.length h.2]
 | [],_::_,h=>h.elim
 | _::_,[],h=>h.elim
theorem zsr {m:Nat->Ob} {ks:List Nat} {C:Cx} {w:World} {G:Im} {X:Xm} (hM:Mem P C m w G X) (hun:∀ k∈ks,zit m k) {vs rs:List V} (h:zcB m ks vs rs) {y:Value} (hi:V.Is G X (zmN vs) y):V.Is G X (zmN rs) y:=by
 have hl:=h.length
 match vs,rs,h,hl with
 | [],[],_,_=>exact hi
 | [v],[r],h,_=>exact zkr.is hM hun h.1 hi
 | v1::v2::vs,r1::r2::rs,h,_ =>
   simp only [zmN] at hi ⊢;rw [V.Is] at hi ⊢;obtain ⟨xs,hx,hl⟩:=hi;exact ⟨xs,hx,zcB.is hM hun h hl⟩
def zrZ (P:Program) (n:Nat) (fn:Func) (rs:List V) (os':Nat->Ob) (st:St):Prop :=
 ∃ (vs:List V) (ks ob:List Nat),zB P n st fn.results.toList=some vs/\zcB (app st.m (fzU st.m ks)) ks vs rs/\(∀ k,os' k=if k∈ob then app st.m (fzU st.m ks) k else .no)/\(∀ k∈ob,∀ j∈(app st.m (fzU st.m ks) k).ids,j∈ob)/\(∀ k∈V.idsL rs,k∈ob)
def Fin (P:Program) (n:Nat) (fn:Func) (rs:List V) (os':Nat->Ob):Exit->St->Prop
 | .normal,st=>zrZ P n fn rs os' st
 | .ret,st=>zrZ P n fn rs os' st
 | _,_=>False
theorem zpO {rs:List V} {ob:List Nat} (h:∀ k∈V.idsL rs,k∈ob):∀ k∈(zmN rs).ids,k∈ob:=by
 match rs with
 | []=>intro k hk;simp [zmN,V.ids,V.idsL] at hk
 | [r]=>intro k hk;exact h k (by simp [V.idsL];exact hk)
 | r1::r2::rs=>intro k hk;simp only [zmN,V.ids] at hk;exact h k hk
theorem zrn {f:FuncId} {fn:Func} {c:Code} (hf:P.funcs[f]?=some fn) (hb:fn.body=some c) (hname:(fn.name == "runtime.NumGoroutine")=false) {args rs:List V} {os os':Nat->Ob} (hlen:args.length<=fn.ntmps)
  (hkeep:∀ k,os k≠.no->os' k≠.no)
  (h:∀ C:Cx,(∀ k,C.X0 k≠none->os k≠.no)->AWP P C fn.ntmps c (Fin P fn.ntmps fn rs os') ⟨fun t=>args.getD t .jk,os⟩):AC P f args os (zmN rs) os':=by
 refine ⟨⟨fn,hf,by simp [hb],hname⟩,?_⟩;intro w G X own xs hM hargs;have hxl:=hargs.length;have hX0:∀ k,X k≠none->os k≠.no:=fun k hk hn=>hk ((hM.free k).2 hn)
 refine calls_of_wp hf hb (wp_mono (h ⟨w,G,own,X⟩ hX0 _ w ⟨G,X,hM,rfl,by simp;omega,?_⟩) ?_)
 ·intro t ht;simp only [Act.eval,Array.getD_eq_getD_getElem?,Array.getElem?_append,List.size_toArray];by_cases h1:t < args.length
  ·obtain ⟨x,hx,hi⟩:=hargs.get t args[t] (List.getElem?_eq_getElem h1);rw [if_pos (by omega),List.getElem?_toArray,hx,List.getD_eq_getElem?_getD,List.getElem?_eq_getElem h1];exact hi
  ·rw [List.getD_eq_getElem?_getD,List.getElem?_eq_none (by omega)];simp only [Option.getD_none];rw [V.Is];trivial
 ·rintro e a' w' ⟨st',hq,G',X',hM',hd,hs,ht⟩;have hends:∀ (he:zrZ P fn.ntmps fn rs os' st'),a'.defers=[]/\∃ v,(results fn a'.tmps).run P w'=.ok v w'/\∃ x G' X',Ending.returned v=.returned x/\Mem P ⟨w,G,own,X⟩ os' w' G' X'/\V.Is G' X' (zmN rs) x:=by
   rintro ⟨vs,ks,ob,h1,h2,h3,h4,h5⟩;obtain ⟨y,hy,hi⟩:=zpA hM' ht h1;obtain ⟨G2,hG2,hM2⟩:=hM'.freezeL ks;have hi2:=zsr hM2 (fun k hk=>oT ks _ k (.inr hk)) h2 (V.Is.mono hG2 (Xle.refl _) _ _ hi);have hob:∀ k,X k≠none->k∈ob:=fun k hk=>by
    have:=hkeep k (hX0 k hk);rw [h3 k] at this;by_cases hin:k∈ob
    ·exact hin
    ·rw [if_neg hin] at this;exact absurd rfl this
   have hM3:=hM2.restrict ob hob h4;have e3:os'=fun k=>if k∈ob then app st'.m (fzU st'.m ks) k else .no:=funext h3
   rw [e3];exact ⟨hd,y,hy,y,G2,_,rfl,hM3,V.Is.restrict (zpO h5) hi2⟩
  cases e with
  | normal=>exact hends hq
  | ret=>exact hends hq
  | _=>exact hq.elim
end
end Go.Abs
end
section
set_option linter.unusedSimpArgs false
set_option linter.unusedVariables false
namespace Go.Abs
section
variable {P:Program} {C:Cx} {n:Nat} {Q:Exit->St->Prop} {st:St} {ops:Array Oper}
theorem zky {α:Type} (f:Nat->α) (k:Nat) (v:α) (i:Nat):upd f k v i=if i=k then v else f i:=rfl
theorem zkB (n:Nat) (s:Nat->V) (t:Nat):ev n s (.tmp t)=if t < n then s t else .jk:=rfl
theorem zdH (n:Nat) (s:Nat->V) (v:Value):ev n s (.const v)=zjw v:=rfl
theorem zhp (n:Nat) (s:Nat->V) (f:FuncId):ev n s (.func f)=.fn f []:=rfl
variable {K:St->Prop} {r:List Oper} {o:Oper}
def zz:List (Nat × V)->Nat->V
 | [],_=>.jk
 | (k,v)::r,i=>if i=k then v else zz r i
def cR:List (Nat × Ob)->Nat->Ob
 | [],_=>.no
 | (k,v)::r,i=>if i=k then v else cR r i
theorem zbm (i:Nat):zz [] i=.jk:=rfl
theorem tJ (k:Nat) (v:V) (r:List (Nat × V)) (i:Nat):zz ((k,v)::r) i=if i=k then v else zz r i:=rfl
theorem pR (i:Nat):cR [] i=.no:=rfl
theorem eX (k:Nat) (v:Ob) (r:List (Nat × Ob)) (i:Nat):cR ((k,v)::r) i=if i=k then v else cR r i:=rfl
theorem zkG {t:TypeId} {k:Nat} (h1:n9 P t=some true) (h2:kG P t=some k) (cs:List V):zcy P t cs=if k<=cs.length then some (.ag (cs.take k)) else none:=by simp [zcy,h1,h2]
theorem zpu {t:TypeId} (h1:n9 P t=some false) (cs:List V):zcy P t cs=cs.head?:=by simp [zcy,h1]
theorem zqE {α:Type} {l:List α} {k:Nat} (h:l.length<=k):l.take k=l:=List.take_of_length_le h
theorem znH {α:Type} {cs vs:List α} (h:cs.length<=vs.length):cK cs 0 vs=vs:=by
 unfold cK;rw [List.take_zero,List.nil_append,Nat.zero_add,List.drop_of_length_le h,List.append_nil]
end
end Go.Abs
namespace Go.Abs
theorem znk {n:Nat} {s:Nat->V} {caps:List V}:([]:List Operand).map (ev n s)++caps=caps:=rfl
theorem zlm {n:Nat} {s:Nat->V} {caps vs:List V} {x:Operand} {xs:List Operand} {v:V} (h:ev n s x=v) (t:xs.map (ev n s)++caps=vs):(x::xs).map (ev n s)++caps=v::vs:=by
 rw [List.map_cons,List.cons_append,h,t]
end Go.Abs
end
section
set_option linter.unusedSimpArgs false
set_option linter.unusedVariables false
namespace Go.Abs
def putS (s:Nat->V) (dst:Option Tmp) (v:V):Nat->V:=match dst with | some d=>upd s d v | none=>s
section
variable {P:Program} {C:Cx} {n:Nat} {ops:Array Oper} {K:List (Nat × Oper × Ev)->St->Prop} {r:List (Oper × Nat)} {acc:List (Nat × Oper × Ev)} {ix:Nat} {s:Nat->V} {m:Nat->Ob} {d:Tmp} {ty:TypeId} {pos:String} {after:Array Edge} {g:Option (Nat × Bool)}
theorem rR {op:Op} {dst:Option Tmp} {v:V} {u:List (Nat × Ob)} {s':Nat->V} {m':Nat->Ob} {fp:List Nat} (hg:aL n ops ⟨dst,op,ty,pos,after,g⟩ ⟨s,m⟩=some true) (h:lB P (jT ⟨dst,op,ty,pos,after,g⟩) (ev n s) m op=some (v,u)) (hfp:jI (jT ⟨dst,op,ty,pos,after,g⟩) (ev n s) op=fp)
  (hs:putS s dst v=s') (hm:app m u=m') (hr:Run P n ops K r ((ix,⟨dst,op,ty,pos,after,g⟩,⟨v,u,fp⟩)::acc) ⟨s',m'⟩):Run P n ops K ((⟨dst,op,ty,pos,after,g⟩,ix)::r) acc ⟨s,m⟩:=by
 subst hs;subst hm;subst hfp;exact ztc hg h (by cases dst<;>exact hr)
theorem zsT {op:Op} (hg:aL n ops ⟨some d,op,ty,pos,after,g⟩ ⟨s,m⟩=some false) (hr:Run P n ops K r ((ix,⟨some d,op,ty,pos,after,g⟩,⟨.tp [],[],[]⟩)::acc) ⟨upd s d (.tp []),m⟩):Run P n ops K ((⟨some d,op,ty,pos,after,g⟩,ix)::r) acc ⟨s,m⟩:=ztd hg hr
theorem ztf {x:Operand} {v:V} (hg:aL n ops ⟨some d,.move x,ty,pos,after,g⟩ ⟨s,m⟩=some true) (hx:ev n s x=v) {fp:List Nat} (hfp:jI (jT ⟨some d,.move x,ty,pos,after,g⟩) (ev n s) (.move x)=fp) (hr:Run P n ops K r ((ix,⟨some d,.move x,ty,pos,after,g⟩,⟨v,[],fp⟩)::acc) ⟨upd s d v,m⟩):Run P n ops K ((⟨some d,.move x,ty,pos,after,g⟩,ix)::r) acc ⟨s,m⟩ :=
 rR (v:=v) (u:=[]) hg (by simp only [lB,hx]) hfp rfl rfl hr
theorem zqO {x:Operand} {v:V} (hg:aL n ops ⟨some d,.assign x,ty,pos,after,g⟩ ⟨s,m⟩=some true) (hx:ev n s x=v) {fp:List Nat} (hfp:jI (jT ⟨some d,.assign x,ty,pos,after,g⟩) (ev n s) (.assign x)=fp) (hr:Run P n ops K r ((ix,⟨some d,.assign x,ty,pos,after,g⟩,⟨v,[],fp⟩)::acc) ⟨upd s d v,m⟩):Run P n ops K ((⟨some d,.assign x,ty,pos,after,g⟩,ix)::r) acc ⟨s,m⟩ :=
 rR (v:=v) (u:=[]) hg (by simp only [lB,hx]) hfp rfl rfl hr
theorem zrD {x a b:Operand} {c:Bool} {v:V} (hg:aL n ops ⟨some d,.pick x a b,ty,pos,after,g⟩ ⟨s,m⟩=some true) (hx:ev n s x=.t (.sc (.bool c))) (hv:ev n s (bif c then a else b)=v) {fp:List Nat} (hfp:jI (jT ⟨some d,.pick x a b,ty,pos,after,g⟩) (ev n s) (.pick x a b)=fp) (hr:Run P n ops K r ((ix,⟨some d,.pick x a b,ty,pos,after,g⟩,⟨v,[],fp⟩)::acc) ⟨upd s d v,m⟩) :
  Run P n ops K ((⟨some d,.pick x a b,ty,pos,after,g⟩,ix)::r) acc ⟨s,m⟩:=by
 subst hv;cases c
 ·exact rR (v:=ev n s b) (u:=[]) hg (by simp only [lB,hx];rfl) hfp rfl rfl hr
 ·exact rR (v:=ev n s a) (u:=[]) hg (by simp only [lB,hx];rfl) hfp rfl rfl hr
theorem zsq {t:TypeId} {zs:List V} (hg:aL n ops ⟨some d,.alloc t,ty,pos,after,g⟩ ⟨s,m⟩=some true) (hz:mG P t=some zs) (hid:qE (m d)=true) {fp:List Nat} (hfp:jI (jT ⟨some d,.alloc t,ty,pos,after,g⟩) (ev n s) (.alloc t)=fp) (hr:Run P n ops K r ((ix,⟨some d,.alloc t,ty,pos,after,g⟩,⟨.rf d 0,[(d,.box zs)],fp⟩)::acc) ⟨upd s d (.rf d 0),upd m d (.box zs)⟩) :
  Run P n ops K ((⟨some d,.alloc t,ty,pos,after,g⟩,ix)::r) acc ⟨s,m⟩:=rR (v:=.rf d 0) (u:=[(d,.box zs)]) hg (by simp only [lB,hz,jT,Option.getD_some,hid,if_true]) hfp rfl rfl hr
theorem r_box {t:TypeId} {x:Operand} {v:V} {cs:List V} (hg:aL n ops ⟨some d,.box t x,ty,pos,after,g⟩ ⟨s,m⟩=some true) (hx:ev n s x=v) (hb:xC v=true) (hc:bZ v=cs) (hid:qE (m d)=true) {fp:List Nat} (hfp:jI (jT ⟨some d,.box t x,ty,pos,after,g⟩) (ev n s) (.box t x)=fp) (hr:Run P n ops K r ((ix,⟨some d,.box t x,ty,pos,after,g⟩,⟨.rf d 0,[(d,.box cs)],fp⟩)::acc) ⟨upd s d (.rf d 0),upd m d (.box cs)⟩) :
  Run P n ops K ((⟨some d,.box t x,ty,pos,after,g⟩,ix)::r) acc ⟨s,m⟩:=by
 subst hc;exact rR (v:=.rf d 0) (u:=[(d,.box (bZ v))]) hg (by simp only [lB,hx,hb,jT,Option.getD_some,hid,and_self,if_true]) hfp rfl rfl hr
theorem zo6 {t:TypeId} {x:Operand} {p v:V} {cs:List V} (hg:aL n ops ⟨some d,.load t x,ty,pos,after,g⟩ ⟨s,m⟩=some true) (ha:n9 P t=some false) (hx:ev n s x=p) (hc:oD m p=some cs) (hv:cs.head?=some v) {fp:List Nat} (hfp:jI (jT ⟨some d,.load t x,ty,pos,after,g⟩) (ev n s) (.load t x)=fp) (hr:Run P n ops K r ((ix,⟨some d,.load t x,ty,pos,after,g⟩,⟨v,[],fp⟩)::acc) ⟨upd s d v,m⟩) :
  Run P n ops K ((⟨some d,.load t x,ty,pos,after,g⟩,ix)::r) acc ⟨s,m⟩:=rR (v:=v) (u:=[]) hg (by simp only [lB,hx,hc,zpu ha,hv]) hfp rfl rfl hr
theorem zlU {t:TypeId} {x:Operand} {p:V} {cs vs:List V} {k:Nat} (hg:aL n ops ⟨some d,.load t x,ty,pos,after,g⟩ ⟨s,m⟩=some true) (ha:n9 P t=some true) (hs:kG P t=some k) (hx:ev n s x=p) (hc:oD m p=some cs) (hk:k<=cs.length) (hv:cs.take k=vs) {fp:List Nat} (hfp:jI (jT ⟨some d,.load t x,ty,pos,after,g⟩) (ev n s) (.load t x)=fp) (hr:Run P n ops K r ((ix,⟨some d,.load t x,ty,pos,after,g⟩,⟨.ag vs,[],fp⟩)::acc) ⟨upd s d (.ag vs),m⟩) :
  Run P n ops K ((⟨some d,.load t x,ty,pos,after,g⟩,ix)::r) acc ⟨s,m⟩:=by
 subst hv;exact rR (v:=.ag (cs.take k)) (u:=[]) hg (by simp only [lB,hx,hc,zkG ha hs,hk,if_true]) hfp rfl rfl hr
theorem zmZ {t:TypeId} {p x:Operand} {k off:Nat} {v:V} {cs ws cs':List V} (hg:aL n ops ⟨none,.store t p x,ty,pos,after,g⟩ ⟨s,m⟩=some true) (hp:ev n s p=.rf k off) (hm:m k=.box cs) (hx:ev n s x=v) (hw:bZ v=ws) (ho:y6 ws=true) (hs:kG P t=some ws.length)
  (hl:off+ws.length<=cs.length) (hn:cK cs off ws=cs') {fp:List Nat} (hfp:jI (jT ⟨none,.store t p x,ty,pos,after,g⟩) (ev n s) (.store t p x)=fp) (hr:Run P n ops K r ((ix,⟨none,.store t p x,ty,pos,after,g⟩,⟨.jk,[(k,.box cs')],fp⟩)::acc) ⟨s,upd m k (.box cs')⟩):Run P n ops K ((⟨none,.store t p x,ty,pos,after,g⟩,ix)::r) acc ⟨s,m⟩:=by
 subst hn;subst hw;exact rR (v:=.jk) (u:=[(k,.box (cK cs off (bZ v)))]) hg (by simp only [lB,zaW,hp,hm,hx,ho,hs,hl,and_self,if_true]) hfp rfl rfl hr
theorem zqM {t e:TypeId} {p x:Operand} {k i sz off:Nat} {v:V} {es es':List (List T)} {row ts:List T} {ws:List V} (hg:aL n ops ⟨none,.store t p x,ty,pos,after,g⟩ ⟨s,m⟩=some true) (hp:ev n s p=.re k i sz off) (hm:m k=.arr es e true) (hx:ev n s x=v) (hw:bZ v=ws) (ho:y6 ws=true) (hs:kG P t=some ws.length)
  (hrow:es[i]?=some row) (hts:zaC m ws=some ts) (hrl:row.length=sz) (he:kG P e=some sz) (hl:off+ws.length<=sz) (hk:k ∉ ws.flatMap fz) {u:List (Nat × Ob)} (hu:fzU m (ws.flatMap fz)=u) {m':Nat->Ob} (hm':app m u=m') (hn:es.set i (cK row off ts)=es')
  {fp:List Nat} (hfp:jI (jT ⟨none,.store t p x,ty,pos,after,g⟩) (ev n s) (.store t p x)=fp) (hr:Run P n ops K r ((ix,⟨none,.store t p x,ty,pos,after,g⟩,⟨.jk,u++[(k,.arr es' e true)],fp⟩)::acc) ⟨s,upd m' k (.arr es' e true)⟩):Run P n ops K ((⟨none,.store t p x,ty,pos,after,g⟩,ix)::r) acc ⟨s,m⟩:=by
 subst hn;subst hw;subst hu;subst hm';refine rR (v:=.jk) hg (u:=fzU m ((bZ v).flatMap fz)++[(k,.arr (es.set i (cK row off ts)) e true)]) (by simp only [lB,zaW,hp,hm,hx,ho,hs,hrow,hts,hrl,he,hl,hk,and_self,if_true,not_false_eq_true]) hfp rfl (by rw [mK];rfl) hr
theorem zmc {t:TypeId} {x:Operand} {f off:Nat} {ft:TypeId} {p v:V} (hg:aL n ops ⟨some d,.fieldAddr t x f,ty,pos,after,g⟩ ⟨s,m⟩=some true) (hf:jJ P t f=some (off,ft)) (hx:ev n s x=p) (hv:zkA off p=some v) {fp:List Nat} (hfp:jI (jT ⟨some d,.fieldAddr t x f,ty,pos,after,g⟩) (ev n s) (.fieldAddr t x f)=fp) (hr:Run P n ops K r ((ix,⟨some d,.fieldAddr t x f,ty,pos,after,g⟩,⟨v,[],fp⟩)::acc) ⟨upd s d v,m⟩) :
  Run P n ops K ((⟨some d,.fieldAddr t x f,ty,pos,after,g⟩,ix)::r) acc ⟨s,m⟩:=rR (v:=v) (u:=[]) hg (by simp only [lB,hx,hf,hv]) hfp rfl rfl hr
theorem zab {t:TypeId} {x i:Operand} {e:TypeId} {sz:Nat} {p v:V} {k:IntKind} {j:Int} (hg:aL n ops ⟨some d,.indexAddr t x i,ty,pos,after,g⟩ ⟨s,m⟩=some true) (he:zcw P t=some (e,sz)) (hx:ev n s x=p) (hi:ev n s i=.t (.sc (.int k j))) (h0:0<=j) (hv:zaT m sz j.toNat p=some v) {fp:List Nat} (hfp:jI (jT ⟨some d,.indexAddr t x i,ty,pos,after,g⟩) (ev n s) (.indexAddr t x i)=fp) (hr:Run P n ops K r ((ix,⟨some d,.indexAddr t x i,ty,pos,after,g⟩,⟨v,[],fp⟩)::acc) ⟨upd s d v,m⟩) :
  Run P n ops K ((⟨some d,.indexAddr t x i,ty,pos,after,g⟩,ix)::r) acc ⟨s,m⟩:=rR (v:=v) (u:=[]) hg (by simp only [lB,hx,hi,he,h0,hv,if_true]) hfp rfl rfl hr
theorem zqN {t:TypeId} {x i:Operand} {b:ByteArray} {k:IntKind} {j:Int} (hg:aL n ops ⟨some d,.index t x i,ty,pos,after,g⟩ ⟨s,m⟩=some true) (he:P.underlying t=some .string) (hx:ev n s x=.t (.sc (.str b))) (hi:ev n s i=.t (.sc (.int k j))) (h0:0<=j) (h1:j < b.size) {fp:List Nat} (hfp:jI (jT ⟨some d,.index t x i,ty,pos,after,g⟩) (ev n s) (.index t x i)=fp) (hr:Run P n ops K r ((ix,⟨some d,.index t x i,ty,pos,after,g⟩,⟨.t (.sc (.int .u8 (zaV b j.toNat).toNat)),[],fp⟩)::acc) ⟨upd s d (.t (.sc (.int .u8 (zaV b j.toNat).toNat))),m⟩) :
  Run P n ops K ((⟨some d,.index t x i,ty,pos,after,g⟩,ix)::r) acc ⟨s,m⟩:=rR (v:=.t (.sc (.int .u8 (zaV b j.toNat).toNat))) (u:=[]) hg (by simp only [lB,hx,hi,he,h0,h1,and_self,if_true]) hfp rfl rfl hr
theorem zr6 {t e:TypeId} {x:Operand} {v:V} {k:Nat} (hg:aL n ops ⟨some d,.call { callee:=.builtin .len,args:=#[x],argTypes:=#[t] },ty,pos,after,g⟩ ⟨s,m⟩=some true) (ht:P.underlying t=some (.slice e)) (hx:ev n s x=v) (hl:zmO m v=some k) {fp:List Nat} (hfp:jI (jT ⟨some d,.call { callee:=.builtin .len,args:=#[x],argTypes:=#[t] },ty,pos,after,g⟩) (ev n s) (.call { callee:=.builtin .len,args:=#[x],argTypes:=#[t] })=fp) (hr:Run P n ops K r ((ix,⟨some d,.call { callee:=.builtin .len,args:=#[x],argTypes:=#[t] },ty,pos,after,g⟩,⟨.t (.sc (.int .i64 k)),[],fp⟩)::acc) ⟨upd s d (.t (.sc (.int .i64 k))),m⟩) :
  Run P n ops K ((⟨some d,.call { callee:=.builtin .len,args:=#[x],argTypes:=#[t] },ty,pos,after,g⟩,ix)::r) acc ⟨s,m⟩:=rR (v:=.t (.sc (.int .i64 k))) (u:=[]) hg (by simp only [lB,zjx,ht,hx,hl]) hfp rfl rfl hr
theorem zth {t:TypeId} {x:Operand} {b:ByteArray} (hg:aL n ops ⟨some d,.call { callee:=.builtin .len,args:=#[x],argTypes:=#[t] },ty,pos,after,g⟩ ⟨s,m⟩=some true) (ht:P.underlying t=some .string) (hx:ev n s x=.t (.sc (.str b))) {fp:List Nat} (hfp:jI (jT ⟨some d,.call { callee:=.builtin .len,args:=#[x],argTypes:=#[t] },ty,pos,after,g⟩) (ev n s) (.call { callee:=.builtin .len,args:=#[x],argTypes:=#[t] })=fp) (hr:Run P n ops K r ((ix,⟨some d,.call { callee:=.builtin .len,args:=#[x],argTypes:=#[t] },ty,pos,after,g⟩,⟨.t (.sc (.int .i64 b.size)),[],fp⟩)::acc) ⟨upd s d (.t (.sc (.int .i64 b.size))),m⟩) :
  Run P n ops K ((⟨some d,.call { callee:=.builtin .len,args:=#[x],argTypes:=#[t] },ty,pos,after,g⟩,ix)::r) acc ⟨s,m⟩:=rR (v:=.t (.sc (.int .i64 b.size))) (u:=[]) hg (by simp only [lB,zjx,ht,hx]) hfp rfl rfl hr
theorem zet {op:BinOp} {t t':TypeId} {x y:Operand} {a b c:S} (hg:aL n ops ⟨some d,.binOp op t x y t',ty,pos,after,g⟩ ⟨s,m⟩=some true) (hx:ev n s x=.t (.sc a)) (hy:ev n s y=.t (.sc b)) (h:zjz op a b=some c) {fp:List Nat} (hfp:jI (jT ⟨some d,.binOp op t x y t',ty,pos,after,g⟩) (ev n s) (.binOp op t x y t')=fp) (hr:Run P n ops K r ((ix,⟨some d,.binOp op t x y t',ty,pos,after,g⟩,⟨.t (.sc c),[],fp⟩)::acc) ⟨upd s d (.t (.sc c)),m⟩) :
  Run P n ops K ((⟨some d,.binOp op t x y t',ty,pos,after,g⟩,ix)::r) acc ⟨s,m⟩:=rR (v:=.t (.sc c)) (u:=[]) hg (by simp only [lB,hx,hy,h]) hfp rfl rfl hr
theorem ztj {op:BinOp} {t t':TypeId} {x y:Operand} {a b:Bool} {c:S} (hg:aL n ops ⟨some d,.binOp op t x y t',ty,pos,after,g⟩ ⟨s,m⟩=some true) (hx:ev n s x=.t (.sc (.bool a))) (hy:ev n s y=.t (.sc (.bool b))) (ht:P.underlying t=some .bool) (h:(match op with | .eql=>some (S.bool (decide (a=b))) | .neq=>some (S.bool (decide (a≠b))) | _=>none)=some c) {fp:List Nat} (hfp:jI (jT ⟨some d,.binOp op t x y t',ty,pos,after,g⟩) (ev n s) (.binOp op t x y t')=fp) (hr:Run P n ops K r ((ix,⟨some d,.binOp op t x y t',ty,pos,after,g⟩,⟨.t (.sc c),[],fp⟩)::acc) ⟨upd s d (.t (.sc c)),m⟩) :
  Run P n ops K ((⟨some d,.binOp op t x y t',ty,pos,after,g⟩,ix)::r) acc ⟨s,m⟩:=rR (v:=.t (.sc c)) (u:=[]) hg (by cases op<;>simp at h<;>subst h<;>simp [lB,hx,hy,zjz,zqw,ht]) hfp rfl rfl hr
theorem r_un {op:UnOp} {t:TypeId} {x:Operand} {a c:S} (hg:aL n ops ⟨some d,.unOp op t x,ty,pos,after,g⟩ ⟨s,m⟩=some true) (hx:ev n s x=.t (.sc a)) (h:aun op a=some c) {fp:List Nat} (hfp:jI (jT ⟨some d,.unOp op t x,ty,pos,after,g⟩) (ev n s) (.unOp op t x)=fp) (hr:Run P n ops K r ((ix,⟨some d,.unOp op t x,ty,pos,after,g⟩,⟨.t (.sc c),[],fp⟩)::acc) ⟨upd s d (.t (.sc c)),m⟩) :
  Run P n ops K ((⟨some d,.unOp op t x,ty,pos,after,g⟩,ix)::r) acc ⟨s,m⟩:=rR (v:=.t (.sc c)) (u:=[]) hg (by simp only [lB,hx,h]) hfp rfl rfl hr
theorem zpB {x:Operand} {i:Nat} {vs:List V} {v:V} (hg:aL n ops ⟨some d,.extract x i,ty,pos,after,g⟩ ⟨s,m⟩=some true) (hx:ev n s x=.tp vs) (hv:vs[i]?=some v) {fp:List Nat} (hfp:jI (jT ⟨some d,.extract x i,ty,pos,after,g⟩) (ev n s) (.extract x i)=fp) (hr:Run P n ops K r ((ix,⟨some d,.extract x i,ty,pos,after,g⟩,⟨v,[],fp⟩)::acc) ⟨upd s d v,m⟩) :
  Run P n ops K ((⟨some d,.extract x i,ty,pos,after,g⟩,ix)::r) acc ⟨s,m⟩:=rR (v:=v) (u:=[]) hg (by simp only [lB,hx,hv]) hfp rfl rfl hr
theorem znO {x:Operand} {k off:Nat} (hg:aL n ops ⟨some d,.nilCheck x,ty,pos,after,g⟩ ⟨s,m⟩=some true) (hx:ev n s x=.rf k off) {fp:List Nat} (hfp:jI (jT ⟨some d,.nilCheck x,ty,pos,after,g⟩) (ev n s) (.nilCheck x)=fp) (hr:Run P n ops K r ((ix,⟨some d,.nilCheck x,ty,pos,after,g⟩,⟨.rf k off,[],fp⟩)::acc) ⟨upd s d (.rf k off),m⟩) :
  Run P n ops K ((⟨some d,.nilCheck x,ty,pos,after,g⟩,ix)::r) acc ⟨s,m⟩:=rR (v:=.rf k off) (u:=[]) hg (by simp only [lB,hx]) hfp rfl rfl hr
theorem r_int {src dst:TypeId} {x:Operand} {k k1 k2:IntKind} {j:Int} (hg:aL n ops ⟨some d,.convert src dst x,ty,pos,after,g⟩ ⟨s,m⟩=some true) (h1:P.underlying src=some (.int k1)) (h2:P.underlying dst=some (.int k2)) (hx:ev n s x=.t (.sc (.int k j))) {j':Int} (hj:k2.wrap j=j') {fp:List Nat} (hfp:jI (jT ⟨some d,.convert src dst x,ty,pos,after,g⟩) (ev n s) (.convert src dst x)=fp) (hr:Run P n ops K r ((ix,⟨some d,.convert src dst x,ty,pos,after,g⟩,⟨(.t (.sc (.int k2 j'))),[],fp⟩)::acc) ⟨upd s d (.t (.sc (.int k2 j'))),m⟩) :
  Run P n ops K ((⟨some d,.convert src dst x,ty,pos,after,g⟩,ix)::r) acc ⟨s,m⟩:=by
 subst hj;exact rR (v:=.t (.sc (.int k2 (k2.wrap j)))) (u:=[]) hg (by simp only [lB,zdL,hx,h1,h2]) hfp rfl rfl hr
theorem zqP {t e:TypeId} {by' sz k:Nat} {x y:Operand} {v:V} {es fs:List (List T)} {md:Bool} (hg:aL n ops ⟨some d,.call { callee:=.builtin .append,args:=#[x,y],argTypes:=#[t,t] },ty,pos,after,g⟩ ⟨s,m⟩=some true) (ha:zb2 P t=some (e,by',sz)) (hx:ev n s x=.ar k) (hy:ev n s y=v) (hv:toT m v=some (.sl fs))
  (hfs:fs.all (fun r=>decide (r.length=sz))=true) (h1:qE (m d)=true) (h2:qE (m (d+1000))=true) (h3:d ∉ fz v) (h4:d+1000 ∉ fz v) {u:List (Nat × Ob)} (hu:fzU m (fz v)=u) {m1:Nat->Ob} (hm1:app m u=m1) (hm:m1 k=.arr es e md) (hb:(es.length+fs.length)*by'<=140737488355328) {es':List (List T)} (hes:es++fs=es') {o':Ob} (ho:(bif md then .dead else .ro es)=o')
  {fp:List Nat} (hfp:jI (jT ⟨some d,.call { callee:=.builtin .append,args:=#[x,y],argTypes:=#[t,t] },ty,pos,after,g⟩) (ev n s) (.call { callee:=.builtin .append,args:=#[x,y],argTypes:=#[t,t] })=fp) (hr:Run P n ops K r ((ix,⟨some d,.call { callee:=.builtin .append,args:=#[x,y],argTypes:=#[t,t] },ty,pos,after,g⟩,⟨.ar d,u++[(k,o'),(d,.arr es' e md)],fp⟩)::acc) ⟨upd s d (.ar d),upd (upd m1 k o') d (.arr es' e md)⟩) :
  Run P n ops K ((⟨some d,.call { callee:=.builtin .append,args:=#[x,y],argTypes:=#[t,t] },ty,pos,after,g⟩,ix)::r) acc ⟨s,m⟩:=by
 subst hu;subst hm1;subst hes;subst ho;cases md
 ·exact rR (v:=.ar d) (u:=fzU m (fz v)++[(k,.ro es),(d,.arr (es++fs) e false)]) hg (by simp only [lB,zjx,zbh,ha,hx,hy,hv,hfs,jT,Option.getD_some,h1,h2,h3,h4,hm,hb,not_false_eq_true,and_self,if_true];rfl) hfp rfl (by rw [mK];rfl) hr
 ·exact rR (v:=.ar d) (u:=fzU m (fz v)++[(k,.dead),(d,.arr (es++fs) e true)]) hg (by simp only [lB,zjx,zbh,ha,hx,hy,hv,hfs,jT,Option.getD_some,h1,h2,h3,h4,hm,hb,not_false_eq_true,and_self,if_true]) hfp rfl (by rw [mK];rfl) hr
theorem ztg {t e:TypeId} {by' sz:Nat} {x y:Operand} {k k':IntKind} {j:Int} {zt:List T} (hg:aL n ops ⟨some d,.makeSlice t x y,ty,pos,after,g⟩ ⟨s,m⟩=some true) (ha:zb2 P t=some (e,by',sz)) (hz:zkk P e=some zt) (hzl:zt.length=sz) (hx:ev n s x=.t (.sc (.int k j))) (hy:ev n s y=.t (.sc (.int k' j))) (h0:0<=j) (hb:j.toNat*by'<=140737488355328) (h1:qE (m d)=true)
  {fp:List Nat} (hfp:jI (jT ⟨some d,.makeSlice t x y,ty,pos,after,g⟩) (ev n s) (.makeSlice t x y)=fp) (hr:Run P n ops K r ((ix,⟨some d,.makeSlice t x y,ty,pos,after,g⟩,⟨.ar d,[(d,.arr (List.replicate j.toNat zt) e true)],fp⟩)::acc) ⟨upd s d (.ar d),upd m d (.arr (List.replicate j.toNat zt) e true)⟩):Run P n ops K ((⟨some d,.makeSlice t x y,ty,pos,after,g⟩,ix)::r) acc ⟨s,m⟩ :=
 rR (v:=.ar d) (u:=[(d,.arr (List.replicate j.toNat zt) e true)]) hg (by simp only [lB,zqv,hx,hy,ha,hz,hzl,h0,hb,jT,Option.getD_some,h1,and_self,if_true]) hfp rfl rfl hr
theorem zsp {t:TypeId} {parts:Array (Nat × Operand)} {zs us:List V} {pl:List (Nat × Nat)} {ps:List (Nat × V)} (hg:aL n ops ⟨some d,.build t parts,ty,pos,after,g⟩ ⟨s,m⟩=some true) (hz:mG P t=some zs) (hpl:xZ P t=some pl) (hp:parts.toList.map (fun p=>(p.1,ev n s p.2))=ps) (hf:zg2 (pl[·]?) zs ps=some us)
  {fp:List Nat} (hfp:jI (jT ⟨some d,.build t parts,ty,pos,after,g⟩) (ev n s) (.build t parts)=fp) (hr:Run P n ops K r ((ix,⟨some d,.build t parts,ty,pos,after,g⟩,⟨.ag us,[],fp⟩)::acc) ⟨upd s d (.ag us),m⟩):Run P n ops K ((⟨some d,.build t parts,ty,pos,after,g⟩,ix)::r) acc ⟨s,m⟩:=by
 subst hp;exact rR (v:=.ag us) (u:=[]) hg (by simp only [lB,hz,hpl,hf]) hfp rfl rfl hr
theorem zlq {t e:TypeId} {by' sz k:Nat} {parts:Array (Nat × Operand)} {zt:List T} {ps:List (Nat × V)} {fs:List (List T)} {ids:List Nat} (hg:aL n ops ⟨some d,.buildSlice t k parts,ty,pos,after,g⟩ ⟨s,m⟩=some true) (ha:zb2 P t=some (e,by',sz)) (hz:zkk P e=some zt) (hzl:zt.length=sz) (hk:k*sz<=16777216) (h1:qE (m d)=true)
  (hp:parts.toList.map (fun p=>(p.1,ev n s p.2))=ps) (hids:ps.flatMap (fun p=>(bZ p.2).flatMap fz)=ids) (hd:d ∉ ids) (hf:zcA m sz (List.replicate k zt) ps=some fs) {u:List (Nat × Ob)} (hu:fzU m ids=u) {m1:Nat->Ob} (hm1:app m u=m1)
  {fp:List Nat} (hfp:jI (jT ⟨some d,.buildSlice t k parts,ty,pos,after,g⟩) (ev n s) (.buildSlice t k parts)=fp) (hr:Run P n ops K r ((ix,⟨some d,.buildSlice t k parts,ty,pos,after,g⟩,⟨.ar d,u++[(d,.arr fs e true)],fp⟩)::acc) ⟨upd s d (.ar d),upd m1 d (.arr fs e true)⟩):Run P n ops K ((⟨some d,.buildSlice t k parts,ty,pos,after,g⟩,ix)::r) acc ⟨s,m⟩:=by
 subst hp;subst hu;subst hm1;subst hids;exact rR (v:=.ar d) hg (u:=fzU m _++[(d,.arr fs e true)]) (by simp only [lB,zae,ha,hz,hzl,hk,jT,Option.getD_some,h1,hd,hf,not_false_eq_true,and_self,if_true]) hfp rfl (by rw [mK];rfl) hr
theorem zo5 {t:TypeId} {x:Operand} {lo hi:Option Operand} {v v':V} {l h:Option V} {u:List (Nat × Ob)} {m1:Nat->Ob} (hg:aL n ops ⟨some d,.slice t x lo hi none,ty,pos,after,g⟩ ⟨s,m⟩=some true) (hx:ev n s x=v) (hl:lo.map (ev n s)=l) (hh:hi.map (ev n s)=h) (hs:zi2 P m t v l h=some (v',u)) (hm1:app m u=m1)
  {fp:List Nat} (hfp:jI (jT ⟨some d,.slice t x lo hi none,ty,pos,after,g⟩) (ev n s) (.slice t x lo hi none)=fp) (hr:Run P n ops K r ((ix,⟨some d,.slice t x lo hi none,ty,pos,after,g⟩,⟨v',u,fp⟩)::acc) ⟨upd s d v',m1⟩):Run P n ops K ((⟨some d,.slice t x lo hi none,ty,pos,after,g⟩,ix)::r) acc ⟨s,m⟩:=by
 subst hl;subst hh;subst hm1;exact rR (v:=v') (u:=u) hg (by simp only [lB,hx,hs]) hfp rfl rfl hr
theorem zti {f:FuncId} {caps:Array Operand} {vs:List V} (hg:aL n ops ⟨some d,.makeFunc (.func f) #[] caps,ty,pos,after,g⟩ ⟨s,m⟩=some true) (hc:caps.toList.map (ev n s)=vs) {fp:List Nat} (hfp:jI (jT ⟨some d,.makeFunc (.func f) #[] caps,ty,pos,after,g⟩) (ev n s) (.makeFunc (.func f) #[] caps)=fp) (hr:Run P n ops K r ((ix,⟨some d,.makeFunc (.func f) #[] caps,ty,pos,after,g⟩,⟨.fn f vs,[],fp⟩)::acc) ⟨upd s d (.fn f vs),m⟩):Run P n ops K ((⟨some d,.makeFunc (.func f) #[] caps,ty,pos,after,g⟩,ix)::r) acc ⟨s,m⟩:=by
 subst hc;exact rR (v:=.fn f (caps.toList.map (ev n s))) (u:=[]) hg (by simp only [lB,List.size_toArray,List.length_nil,if_true]) hfp rfl rfl hr
theorem zte {op:Op} {c:Call} {fop:Operand} {f:FuncId} {caps:List V} {cargs avs:List V} {rv:V} {m1:Nat->Ob} (ks:List Nat) (hg:aL n ops ⟨some d,op,ty,pos,after,g⟩ ⟨s,m⟩=some true) (ho:op=.call c) (hc:c.callee=.value fop) (hf:ev n s fop=.fn f caps) (hav:c.args.toList.map (ev n s)++caps=avs) {u:List (Nat × Ob)} (hu:fzU m ks=u) (hm1:app m u=m1) (hAC:AC P f cargs aZ rv aZ)
  (hp:zaR m1 (fun k=>k) ks aZ avs cargs) {fp:List Nat} (hfp:jI 0 (ev n s) op++ks=fp) (hr:Run P n ops K r ((ix,⟨some d,op,ty,pos,after,g⟩,⟨rv,u,fp⟩)::acc) ⟨upd s d rv,m1⟩):Run P n ops K ((⟨some d,op,ty,pos,after,g⟩,ix)::r) acc ⟨s,m⟩:=by
 subst hav;subst hu;subst hm1;subst hfp;exact run_pure hg ks ho hc hf hAC hp hr
theorem rT {K':St->Prop} (h:K' ⟨s,m⟩):Run P n ops (fun _ st=>K' st) [] acc ⟨s,m⟩:=h
theorem uO {K':St->Prop} {b:Array Nat} (hf:zfH ops b acc.reverse=true) (h:K' ⟨s,m⟩):Run P n ops (fun acc st=>zfH ops b acc.reverse=true/\K' st) [] acc ⟨s,m⟩:=⟨hf,h⟩
variable {Q:Exit->St->Prop} {y:Code} {st:St} {id id':Nat}
theorem xO (h:AWP P C n y Q st):Thn P C n y Q .normal st:=h
theorem zeM (h:Q (.exit id) st):Thn P C n y Q (.exit id) st:=h
theorem cB (h:Q .ret st):Thn P C n y Q .ret st:=h
theorem zaQ (h:Q .normal st):InB id Q .normal st:=h
theorem r5 (h:Q .ret st):InB id Q .ret st:=h
theorem zeN (h:Q .normal st):InB id Q (.exit id) st:=by simp only [InB,if_true];exact h
section
variable {α:Type} {μ:α->Nat} {sl:α->List (Nat × V)} {ob:α->List (Nat × Ob)} {Inv:α->Prop} {a:α}
end
theorem jR {fn:Func} {rs:List V} {os':Nat->Ob} (h:zrZ P n fn rs os' st):Fin P n fn rs os' .ret st:=h
theorem vP {fn:Func} {rs:List V} {os':Nat->Ob} (h:zrZ P n fn rs os' st):Fin P n fn rs os' .normal st:=h
end
end Go.Abs
end
section
namespace Go.Abs
abbrev vb (b:Bool):V:=.t (.sc (.bool b))
abbrev ti (n:Int):T:=.sc (.int .i64 n)
abbrev zdq (s:ByteArray):T:=.sc (.str s)
abbrev wD (l:List Int):T:=.sl (l.map fun n=>[ti n])
def S.wt:S->Nat
 | .str b=>b.size
 | .int _ _=>0
 | .bool _=>0
 | .nip=>0
 | .nii=>0
 | .nif=>0
 | .nim=>0
 | .nis _=>0
 | .gp _=>0
def S.ok:S->Prop
 | .str b=>b.size<=2 ^ 63-1
 | .int k n=>(Lit.int k n).wf=true
 | .bool _=>True
 | .nip=>True
 | .nii=>True
 | .nif=>True
 | .nim=>True
 | .nis _=>True
 | .gp _=>True
mutual
def T.wt:T->Nat
 | .sc s=>s.wt
 | .sl es=>es.length+T.wtR es
 | .ow _ es=>es.length+T.wtR es
 | .any=>0
def T.wtL:List T->Nat
 | []=>0
 | t::ts=>t.wt+T.wtL ts
def T.wtR:List (List T)->Nat
 | []=>0
 | r::rs=>T.wtL r+T.wtR rs
end
mutual
def T.ok:T->Prop
 | .sc s=>s.ok
 | .sl es=>es.length<=2 ^ 63-1/\T.okR es
 | .ow _ _=>False
 | .any=>False
def T.okL:List T->Prop
 | []=>True
 | t::ts=>t.ok/\T.okL ts
def T.okR:List (List T)->Prop
 | []=>True
 | r::rs=>T.okL r/\T.okR rs
end
theorem T.okR_mem:∀ {l:List (List T)} {r:List T},T.okR l->r∈l->T.okL r
 | x::xs,r,h,hm=>by
   rw [T.okR] at h;rcases List.mem_cons.1 hm with rfl | hm
   ·exact h.1
   ·exact T.okR_mem h.2 hm
inductive aB where
 | mk (kind:Int) (name:ByteArray) (n:Int) (scopes:List Int) (kids:List aB)
def aB.kind:aB->Int | .mk kind _ _ _ _=>kind
def aB.name:aB->ByteArray | .mk _ name _ _ _=>name
def aB.n:aB->Int | .mk _ _ n _ _=>n
def aB.scopes:aB->List Int | .mk _ _ _ scopes _=>scopes
def aB.kids:aB->List aB | .mk _ _ _ _ kids=>kids
mutual
def aB.row:aB->List T
 | .mk kind name n scopes kids=>[ti kind]++[zdq name]++[ti n]++[wD scopes]++[.sl (aB.rows kids)]
def aB.rows:List aB->List (List T)
 | []=>[]
 | x::xs=>x.row::aB.rows xs
end
theorem aB.rows_eq:∀ (l:List aB),aB.rows l=l.map aB.row
 | []=>rfl
 | x::xs=>by rw [aB.rows,aB.rows_eq xs,List.map_cons]
theorem aB.row_mk (kind:Int) (name:ByteArray) (n:Int) (scopes:List Int) (kids:List aB):aB.row (aB.mk kind name n scopes kids)=[ti kind,zdq name,ti n,wD scopes,.sl (kids.map aB.row)]:=by simp only [aB.row,aB.rows_eq,List.nil_append,List.cons_append]
theorem aB.row_len (x:aB):x.row.length=5:=by obtain ⟨kind,name,n,scopes,kids⟩:=x;rw [aB.row_mk];rfl
inductive ziB where
 | mk (id:Int) (rule:Int) (scope:Int) (use:aB) (result:aB)
def ziB.id:ziB->Int | .mk id _ _ _ _=>id
def ziB.rule:ziB->Int | .mk _ rule _ _ _=>rule
def ziB.scope:ziB->Int | .mk _ _ scope _ _=>scope
def ziB.use:ziB->aB | .mk _ _ _ use _=>use
def ziB.result:ziB->aB | .mk _ _ _ _ result=>result
def ziB.row:ziB->List T
 | .mk id rule scope use result=>[ti id]++[ti rule]++[ti scope]++use.row++result.row
theorem ziB.row_mk (id:Int) (rule:Int) (scope:Int) (use_kind:Int) (use_name:ByteArray) (use_n:Int) (use_scopes:List Int) (use_kids:List aB) (result_kind:Int) (result_name:ByteArray) (result_n:Int) (result_scopes:List Int) (result_kids:List aB):ziB.row (ziB.mk id rule scope (aB.mk use_kind use_name use_n use_scopes use_kids) (aB.mk result_kind result_name result_n result_scopes result_kids))=[ti id,ti rule,ti scope,ti use_kind,zdq use_name,ti use_n,wD use_scopes,.sl (use_kids.map aB.row),ti result_kind,zdq result_name,ti result_n,wD result_scopes,.sl (result_kids.map aB.row)]:=by simp only [ziB.row,aB.row_mk,aB.row_mk,List.nil_append,List.cons_append]
inductive kH where
 | mk (kind:Int) (id:Int) (name:ByteArray) (n:Int) (ids:List Int) (data:aB) (kids:List kH)
def kH.kind:kH->Int | .mk kind _ _ _ _ _ _=>kind
def kH.id:kH->Int | .mk _ id _ _ _ _ _=>id
def kH.name:kH->ByteArray | .mk _ _ name _ _ _ _=>name
def kH.n:kH->Int | .mk _ _ _ n _ _ _=>n
def kH.ids:kH->List Int | .mk _ _ _ _ ids _ _=>ids
def kH.data:kH->aB | .mk _ _ _ _ _ data _=>data
def kH.kids:kH->List kH | .mk _ _ _ _ _ _ kids=>kids
mutual
def kH.row:kH->List T
 | .mk kind id name n ids data kids=>[ti kind]++[ti id]++[zdq name]++[ti n]++[wD ids]++data.row++[.sl (kH.rows kids)]
def kH.rows:List kH->List (List T)
 | []=>[]
 | x::xs=>x.row::kH.rows xs
end
theorem kH.rows_eq:∀ (l:List kH),kH.rows l=l.map kH.row
 | []=>rfl
 | x::xs=>by rw [kH.rows,kH.rows_eq xs,List.map_cons]
theorem kH.row_mk (kind:Int) (id:Int) (name:ByteArray) (n:Int) (ids:List Int) (data_kind:Int) (data_name:ByteArray) (data_n:Int) (data_scopes:List Int) (data_kids:List aB) (kids:List kH):kH.row (kH.mk kind id name n ids (aB.mk data_kind data_name data_n data_scopes data_kids) kids)=[ti kind,ti id,zdq name,ti n,wD ids,ti data_kind,zdq data_name,ti data_n,wD data_scopes,.sl (data_kids.map aB.row),.sl (kids.map kH.row)]:=by simp only [kH.row,kH.rows_eq,aB.row_mk,List.nil_append,List.cons_append]
inductive aH where
 | mk (name:ByteArray) (scopes:List Int) (id:Int)
def aH.name:aH->ByteArray | .mk name _ _=>name
def aH.scopes:aH->List Int | .mk _ scopes _=>scopes
def aH.id:aH->Int | .mk _ _ id=>id
def aH.row:aH->List T
 | .mk name scopes id=>[zdq name]++[wD scopes]++[ti id]
theorem aH.row_mk (name:ByteArray) (scopes:List Int) (id:Int):aH.row (aH.mk name scopes id)=[zdq name,wD scopes,ti id]:=by simp only [aH.row,List.nil_append,List.cons_append]
theorem aH.row_len (x:aH):x.row.length=3:=by obtain ⟨name,scopes,id⟩:=x;rw [aH.row_mk];rfl
inductive Hit where
 | mk (name:aB) (depth:Int) (one:aB) (many:List Hit)
def Hit.name:Hit->aB | .mk name _ _ _=>name
def Hit.depth:Hit->Int | .mk _ depth _ _=>depth
def Hit.one:Hit->aB | .mk _ _ one _=>one
def Hit.many:Hit->List Hit | .mk _ _ _ many=>many
mutual
def Hit.row:Hit->List T
 | .mk name depth one many=>name.row++[ti depth]++one.row++[.sl (Hit.rows many)]
def Hit.rows:List Hit->List (List T)
 | []=>[]
 | x::xs=>x.row::Hit.rows xs
end
theorem Hit.rows_eq:∀ (l:List Hit),Hit.rows l=l.map Hit.row
 | []=>rfl
 | x::xs=>by rw [Hit.rows,Hit.rows_eq xs,List.map_cons]
theorem Hit.row_mk (name_kind:Int) (name_name:ByteArray) (name_n:Int) (name_scopes:List Int) (name_kids:List aB) (depth:Int) (one_kind:Int) (one_name:ByteArray) (one_n:Int) (one_scopes:List Int) (one_kids:List aB) (many:List Hit):Hit.row (Hit.mk (aB.mk name_kind name_name name_n name_scopes name_kids) depth (aB.mk one_kind one_name one_n one_scopes one_kids) many)=[ti name_kind,zdq name_name,ti name_n,wD name_scopes,.sl (name_kids.map aB.row),ti depth,ti one_kind,zdq one_name,ti one_n,wD one_scopes,.sl (one_kids.map aB.row),.sl (many.map Hit.row)]:=by simp only [Hit.row,Hit.rows_eq,aB.row_mk,aB.row_mk,List.nil_append,List.cons_append]
theorem Hit.row_len (x:Hit):x.row.length=12:=by obtain ⟨⟨name_kind,name_name,name_n,name_scopes,name_kids⟩,depth,⟨one_kind,one_name,one_n,one_scopes,one_kids⟩,many⟩:=x;rw [Hit.row_mk];rfl
inductive aI where
 | mk (pattern:aB) (template:aB)
def aI.pattern:aI->aB | .mk pattern _=>pattern
def aI.template:aI->aB | .mk _ template=>template
def aI.row:aI->List T
 | .mk pattern template=>pattern.row++template.row
theorem aI.row_mk (pattern_kind:Int) (pattern_name:ByteArray) (pattern_n:Int) (pattern_scopes:List Int) (pattern_kids:List aB) (template_kind:Int) (template_name:ByteArray) (template_n:Int) (template_scopes:List Int) (template_kids:List aB):aI.row (aI.mk (aB.mk pattern_kind pattern_name pattern_n pattern_scopes pattern_kids) (aB.mk template_kind template_name template_n template_scopes template_kids))=[ti pattern_kind,zdq pattern_name,ti pattern_n,wD pattern_scopes,.sl (pattern_kids.map aB.row),ti template_kind,zdq template_name,ti template_n,wD template_scopes,.sl (template_kids.map aB.row)]:=by simp only [aI.row,aB.row_mk,aB.row_mk,List.nil_append,List.cons_append]
theorem aI.row_len (x:aI):x.row.length=10:=by obtain ⟨⟨pattern_kind,pattern_name,pattern_n,pattern_scopes,pattern_kids⟩,⟨template_kind,template_name,template_n,template_scopes,template_kids⟩⟩:=x;rw [aI.row_mk];rfl
inductive eD where
 | mk (id:Int) (literals:List aB) (rules:List aI)
def eD.id:eD->Int | .mk id _ _=>id
def eD.literals:eD->List aB | .mk _ literals _=>literals
def eD.rules:eD->List aI | .mk _ _ rules=>rules
def eD.row:eD->List T
 | .mk id literals rules=>[ti id]++[.sl (literals.map aB.row)]++[.sl (rules.map aI.row)]
theorem eD.row_mk (id:Int) (literals:List aB) (rules:List aI):eD.row (eD.mk id literals rules)=[ti id,.sl (literals.map aB.row),.sl (rules.map aI.row)]:=by simp only [eD.row,List.nil_append,List.cons_append]
theorem eD.row_len (x:eD):x.row.length=3:=by obtain ⟨id,literals,rules⟩:=x;rw [eD.row_mk];rfl
inductive cM where
 | mk (binds:List aH) (macros:List eD) (scope:Int) (id:Int) (steps:Int)
def cM.binds:cM->List aH | .mk binds _ _ _ _=>binds
def cM.macros:cM->List eD | .mk _ macros _ _ _=>macros
def cM.scope:cM->Int | .mk _ _ scope _ _=>scope
def cM.id:cM->Int | .mk _ _ _ id _=>id
def cM.steps:cM->Int | .mk _ _ _ _ steps=>steps
def cM.row:cM->List T
 | .mk binds macros scope id steps=>[.sl (binds.map aH.row)]++[.sl (macros.map eD.row)]++[ti scope]++[ti id]++[ti steps]
theorem cM.row_mk (binds:List aH) (macros:List eD) (scope:Int) (id:Int) (steps:Int):cM.row (cM.mk binds macros scope id steps)=[.sl (binds.map aH.row),.sl (macros.map eD.row),ti scope,ti id,ti steps]:=by simp only [cM.row,List.nil_append,List.cons_append]
end Go.Abs
end
