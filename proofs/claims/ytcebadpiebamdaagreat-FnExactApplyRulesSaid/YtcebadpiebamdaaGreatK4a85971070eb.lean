/- A part of the proof: what the functions that the law calls answer, as pure values. -/
import Derived.KernelRfl
import Derived.Test.YtcebadpiebamdaaGreatK05bcdd3636d0
set_option linter.unusedSimpArgs false
set_option linter.unusedVariables false
section
set_option linter.unusedSimpArgs false
set_option linter.unusedVariables false
namespace Go.Abs
section
variable {P:Program} {n:Nat}
theorem cX {f:FuncId} {fn:Func} {c:Code} {N:Nat} (rs:List V) (hf:P.funcs[f]?=some fn) (hb:fn.body=some c) (hn:fn.ntmps=N) {args:List V} {os os':Nat->Ob}
  (h:∀ C:Cx,(∀ k,C.X0 k≠none->os k≠.no)->AWP P C N c (Fin P N fn rs os') ⟨fun t=>args.getD t .jk,os⟩)
  (hname:(fn.name == "runtime.NumGoroutine")=false:=by kernel_rfl) (hlen:args.length<=N:=by simp) (hkeep:∀ k,os k≠.no->os' k≠.no:=by first | (simp [aZ];done) | exact zq1 rfl):AC P f args os (zmN rs) os':=by
 subst hn;exact zrn hf hb hname hlen hkeep h
theorem aC {fn:Func} {rr:Array ResultVar} {rs vs:List V} {s':Nat->V} {m' m1:Nat->Ob} {u:List (Nat × Ob)} (L':List (Nat × Ob)) (ks:List Nat) (hrr:fn.results=rr)
  (h1:zB P n ⟨s',m'⟩ rr.toList=some vs:=by first | exact (dB (by conv=>lhs;whnf) cN) | exact (dB (by conv=>lhs;whnf) (dB (by conv=>lhs;whnf) cN)) | exact (dB (by conv=>lhs;whnf) (dB (by conv=>lhs;whnf) (dB (by conv=>lhs;whnf) cN))) | exact (dB (by conv=>lhs;whnf) (dB (by conv=>lhs;whnf) (dB (by conv=>lhs;whnf) (dB (by conv=>lhs;whnf) cN)))) | exact (dB (by conv=>lhs;whnf) (dB (by conv=>lhs;whnf) (dB (by conv=>lhs;whnf) (dB (by conv=>lhs;whnf) (dB (by conv=>lhs;whnf) cN))))) | exact cN)
  (hu:fzU m' ks=u:=by repeat (first | exact xB | (apply tV;focus ((conv=>lhs;whnf);done)) | (apply tU;focus ((conv=>lhs;whnf);done))))
  (hm1:app m' u=m1:=by simp only [app];rfl)
  (h2:zcB m1 ks vs rs:=by repeat (first | exact zlc | refine zjk (by first | exact .inl rfl | exact zrN rfl rfl | exact zpb rfl rfl rfl) ?_))
  (ho:zqp m1 L':=by repeat (first | exact zgS | refine zdR (by conv=>lhs;whnf) (by rfl) ?_))
  (hi:L'.all (fun p=>p.2.ids.all (fun j=>(L'.map (·.1)).elem j))=true:=by rfl)
  (hr:(V.idsL rs).all (fun k=>(L'.map (·.1)).elem k)=true:=by rfl):zrZ P n fn rs (cR L') ⟨s',m'⟩:=by
 subst hrr;exact bW L' ks h1 hu hm1 h2 ho hi hr
end
section
variable {P:Program} {C:Cx} {n:Nat} {Q:Exit->St->Prop} {s:Nat->V} {m:Nat->Ob}
theorem bM {β:Type} {c:Code} (asg och gar:List Nat) (sl:Nat × β->List (Nat × V)) (ob:Nat × β->List (Nat × Ob)) (Inv:Nat × β->Prop) (a0:Nat × β) (h0:Inv a0)
  (round:∀ a,Inv a->AWP P C n c (zha asg och gar [] (fun a=>a.1) sl ob Inv s m a Q) ⟨frame asg (zz (sl a)) s,frame och (cR (ob a)) m⟩)
  (hga:gar.all (fun k=>qE (m k))=true:=by rfl) (hdis:och.all (fun k=>!gar.elem k)=true:=by rfl) (hoc:∀ a,(ob a).map (·.1)=och:=by intro _;rfl)
  (hs:zrY s (sl a0):=by repeat (first | exact znd | refine zlb (by conv=>lhs;whnf) (by rfl) ?_)) (ho:zqp m (ob a0):=by repeat (first | exact zgS | refine zdR (by conv=>lhs;whnf) (by rfl) ?_)):AWP P C n (.loop c) Q ⟨s,m⟩ :=
 zju asg och gar [] (fun a=>a.1) sl ob Inv a0 h0 hga hdis hoc hs ho (fun _ h=>by cases h) zjl zjm round
theorem iA {α:Type} {x y:Code} (asg och gar:List Nat) (sl:α->List (Nat × V)) (ob:α->List (Nat × Ob)) (Inv:α->Prop)
  (hA:AWP P C n x (zoB asg och gar [] sl ob Inv s m Q) ⟨s,m⟩) (hJ:∀ a,Inv a->AWP P C n y Q ⟨frame asg (zz (sl a)) s,frame och (cR (ob a)) m⟩)
  (hga:gar.all (fun k=>qE (m k))=true:=by rfl) (hoc:∀ a,(ob a).map (·.1)=och:=by intro _;rfl):AWP P C n (.seq x y) Q ⟨s,m⟩ :=
 zrj asg och gar [] sl ob Inv hga hoc (fun _ h=>by cases h) zjl zjm hA hJ
section
variable {α:Type} {asg och gar N:List Nat} {s0:Nat->V} {m0:Nat->Ob}
theorem nJ {sl:α->List (Nat × V)} {ob:α->List (Nat × Ob)} {Inv:α->Prop} (a':α) (h1:Inv a') (h5:zou s och gar (qOf []) (sl a'):=by repeat (first | exact trivial | refine zk8 (by conv=>lhs;whnf) (by rfl) rfl ?_)) (h6:zov m och gar (qOf []) (ob a'):=by repeat (first | exact trivial | refine zk9 (by conv=>lhs;whnf) (by rfl) rfl ?_))
  (h3:Off asg s s0:=by repeat (first | exact vO _ _ _ | exact x6 _ _ | refine za1 rfl ?_ | refine za2 rfl ?_ | refine x5 rfl ?_)) (h4:Off (och++gar) m m0:=by repeat (first | exact vO _ _ _ | exact x6 _ _ | refine za1 rfl ?_ | refine za2 rfl ?_ | refine x5 rfl ?_)) (hR:zqj [] och gar N=true:=by decide):zoB asg och gar N sl ob Inv s0 m0 Q .normal ⟨s,m⟩ :=
 zta a' [] h1 h5 h6 h3 h4 hR
theorem d6 {sl:Nat × α->List (Nat × V)} {ob:Nat × α->List (Nat × Ob)} {Inv:Nat × α->Prop} {b:α} {fu:Nat} (a':Nat × α) (h1:Inv a') (R:List (Nat × Nat):=[]) (h5:zou s och gar (qOf R) (sl a'):=by repeat (first | exact trivial | refine zk8 (by conv=>lhs;whnf) (by rfl) rfl ?_)) (h6:zov m och gar (qOf R) (ob a'):=by repeat (first | exact trivial | refine zk9 (by conv=>lhs;whnf) (by rfl) rfl ?_))
  (h2:a'.1 < fu+1:=by first | exact Nat.lt_succ_self _ | (dsimp only;omega))
  (h3:Off asg s s0:=by repeat (first | exact vO _ _ _ | exact x6 _ _ | refine za1 rfl ?_ | refine za2 rfl ?_ | refine x5 rfl ?_)) (h4:Off (och++gar) m m0:=by repeat (first | exact vO _ _ _ | exact x6 _ _ | refine za1 rfl ?_ | refine za2 rfl ?_ | refine x5 rfl ?_)) (hR:zqj R och gar N=true:=by decide):zha asg och gar N (fun a=>a.1) sl ob Inv s0 m0 (fu+1,b) Q .normal ⟨s,m⟩ :=
 zs9 a' R h1 h5 h6 h2 h3 h4 hR
end
end
end Go.Abs
end
section
set_option linter.unusedSimpArgs false
set_option linter.unusedVariables false
namespace Go.Abs
section
variable {P:Program} {C:Cx} {n:Nat} {s:Nat->V} {m:Nat->Ob} {w:World} {G:Im} {X:Xm}
theorem zny {k:Nat} {es:List (List T)} {e:TypeId} (hm:m k=.arr es e true):zqo P C n ⟨s,m⟩ ⟨s,upd m k (.dar es e)⟩:=by
 rintro x w ⟨G,X,hM,hd,hsz,ht⟩;exact ⟨G,X,Mem.toDar hM hm,hd,hsz,ht⟩
theorem zp3 {c:Code} {Q:Exit->St->Prop} (k:Nat) {es:List (List T)} {e:TypeId} (hm:m k=.arr es e true) (h:AWP P C n c Q ⟨s,upd m k (.dar es e)⟩):AWP P C n c Q ⟨s,m⟩:=lX (zny hm) h
theorem znz {k:Nat} {es fs:List (List T)} {e:TypeId} (hm:m k=.dar es e) (hb:(es.all fun r=>r.all T.fzB)=true) (hf:es.map (·.map T.fzT)=fs):zqo P C n ⟨s,m⟩ ⟨s,upd m k (.arr fs e true)⟩:=by
 rintro x w ⟨G,X,hM,hd,hsz,ht⟩;replace hM:Mem P C m w G X:=hM;obtain ⟨G',hG,hM'⟩:=hM.fzDar hm hb;rw [hf] at hM';exact ⟨G',X,hM',hd,hsz,fun t htn=>V.Is.mono hG (Xle.refl X) _ _ (ht t htn)⟩
theorem zp4 {c:Code} {Q:Exit->St->Prop} (k:Nat) {es:List (List T)} {e:TypeId} (fs:List (List T)) (hm:m k=.dar es e) (hb:(es.all fun r=>r.all T.fzB)=true) (hf:es.map (·.map T.fzT)=fs) (h:AWP P C n c Q ⟨s,upd m k (.arr fs e true)⟩):AWP P C n c Q ⟨s,m⟩:=lX (znz hm hb hf) h
theorem zqB {i a b:Nat} {o:Ob} (hno:o≠.no) (hs:s i=.ar a) (ha:m a=o) (hb:qE (m b)=true):zqo P C n ⟨s,m⟩ ⟨upd s i (.ar b),upd (upd m a .dead) b o⟩:=by
 rintro x w ⟨G,X,hM,hd,hsz,ht⟩;replace hM:Mem P C m w G X:=hM;replace ht:∀ t,t < n->V.Is G X (s t) (x.eval (.tmp t)):=ht;have hb:=i8 hb;have hXb:X b=none:=(hM.free b).2 hb;have hab:a≠b:=fun h=>by rw [h,hb] at ha;exact hno ha.symm
 cases hX:X a with
 | none=>rw [(hM.free a).1 hX] at ha;exact absurd ha.symm hno
 | some v =>
   have e1:∀ k x,X k=some x->(fun k=>if k=b then some v else X k) k=some x:=fun k x hk=>by
    by_cases h:k=b
    ·rw [h,hXb] at hk;cases hk
    ·simp only [if_neg h];exact hk
   have hmo:∀ k,k≠b->k≠a->upd (upd m a Ob.dead) b o k=m k:=fun k h1 h2=>by rw [aJ _ _ _ h1,aJ _ _ _ h2]
   have hma:upd (upd m a Ob.dead) b o a=.dead:=by rw [aJ _ _ _ hab,aE]
   have hmb:upd (upd m a Ob.dead) b o b=o:=aE _ _ _;refine ⟨G,fun k=>if k=b then some v else X k,⟨hM.gle,hM.gold,hM.gok,hM.keeps,?_,?_,?_,?_,?_,?_⟩,hd,hsz,?_⟩
   ·intro k x hk;by_cases h1:k=b
    ·rw [h1] at hk ⊢;simp only [if_pos] at hk;cases hk;simp only [hmb];have h8:=hM.ob a v hX;rw [ha] at h8;have h9:=Ob.Ok_ren (q:=fun k=>k) (Y:=fun k=>if k=b then some v else X k) (fun j _ y hy=>e1 j y hy) h8
     rwa [Ob.ren_id] at h9
    ·simp only [if_neg h1] at hk;by_cases h2:k=a
     ·subst h2;simp only [hma];trivial
     ·simp only [hmo k h1 h2];have:=hM.ob k x hk;have:=Ob.Ok_ren (q:=fun k=>k) (Y:=fun k=>if k=b then some v else X k) (fun j _ y hy=>e1 j y hy) this
      rwa [Ob.ren_id] at this
   ·intro k;by_cases h1:k=b
    ·subst h1;simp only [hmb,if_true];simp [hno]
    ·simp only [if_neg h1];by_cases h2:k=a
     ·subst h2;simp only [hma,hX];simp
     ·simp only [hmo k h1 h2];exact hM.free k
   ·intro k k' x x' bl hk hk' B1 B2;have red:∀ k x,(if k=b then some v else X k)=some x->(upd (upd m a Ob.dead) b o k).has w x bl->∃ k0,X k0=some x/\(m k0).has w x bl/\((k=b/\k0=a)∨(k≠b/\k≠a/\k0=k)):=by
     intro k x hk hbk;by_cases h1:k=b
     ·subst h1;rw [if_pos rfl] at hk;cases hk;rw [hmb] at hbk;exact ⟨a,hX,by rw [ha];exact hbk,.inl ⟨rfl,rfl⟩⟩
     ·rw [if_neg h1] at hk;by_cases h2:k=a
      ·subst h2;rw [hma] at hbk;exact (Ob.has_dead hbk).elim
      ·rw [hmo k h1 h2] at hbk;exact ⟨k,hk,hbk,.inr ⟨h1,h2,rfl⟩⟩
    obtain ⟨k1,q1,q2,q3⟩:=red k x hk B1;obtain ⟨k2,r1,r2,r3⟩:=red k' x' hk' B2;have:=hM.apart k1 k2 x x' bl q1 r1 q2 r2;rcases q3 with ⟨rfl,rfl⟩ | ⟨h1,h2,rfl⟩<;>rcases r3 with ⟨rfl,rfl⟩ | ⟨h3,h4,rfl⟩
    ·rfl
    ·exact absurd this.symm h4
    ·exact absurd this h2
    ·exact this
   ·intro k x bl hk hbk;by_cases h1:k=b
    ·subst h1;simp only [if_true] at hk;cases hk;simp only [hmb] at hbk;exact hM.mine a v bl hX (by rw [ha];exact hbk)
    ·simp only [if_neg h1] at hk;by_cases h2:k=a
     ·subst h2;simp only [hma] at hbk;exact (Ob.has_dead hbk).elim
     ·simp only [hmo k h1 h2] at hbk;exact hM.mine k x bl hk hbk
   ·intro k x hk;by_cases h1:k=b
    ·subst h1;simp only [if_true] at hk;cases hk;exact hM.cell a v hX
    ·simp only [if_neg h1] at hk;exact hM.cell k x hk
   ·intro k x hk;exact e1 k x (hM.old k x hk)
   ·intro t htn;simp only [upd];split
    ·rename_i hti;subst hti;have:=ht t htn;rw [hs,V.Is,hX] at this;rw [V.Is];simp only [if_true];exact this
    ·exact V.Is.mono (Gle.refl _) (fun k x hk=>e1 k x hk) _ _ (ht t htn)
theorem zpj {c:Code} {Q:Exit->St->Prop} (i a b:Nat) {es:List (List T)} {e:TypeId} (hs:s i=.ar a) (ha:m a=.dar es e) (hb:qE (m b)=true) (h:AWP P C n c Q ⟨upd s i (.ar b),upd (upd m a .dead) b (.dar es e)⟩):AWP P C n c Q ⟨s,m⟩:=lX (zqB (by simp) hs ha hb) h
theorem zl8 {α:Type} {c:Code} {Q:Exit->St->Prop} (k:Nat) (row:α->List T) {es:List (List T)} {e:TypeId} (hm:m k=.arr es e true) (he:es=[]) (h:AWP P C n c Q ⟨s,upd m k (.dar (([]:List α).map row) e)⟩):AWP P C n c Q ⟨s,m⟩:=by
 subst he;exact zp3 k hm h
theorem zsM {α:Type} {c:Code} {Q:Exit->St->Prop} (k:Nat) (row rowO:α->List T) (h1:∀ y,(rowO y).all T.fzB=true) (h2:∀ y,(rowO y).map T.fzT=row y) {l:List α} {e:TypeId} (hm:m k=.dar (l.map rowO) e) (h:AWP P C n c Q ⟨s,upd m k (.arr (l.map row) e true)⟩):AWP P C n c Q ⟨s,m⟩ :=
 zp4 k (l.map row) hm (by simp only [List.all_map,List.all_eq_true];intro y _;exact h1 y) (by rw [List.map_map];exact List.map_congr_left fun y _=>h2 y) h
theorem zsJ {α β:Type} {c:Code} {Q:Exit->St->Prop} (q k sz:Nat) (row:α->List T) (rowL:β->List T) {l:List α} {y:α} (y2:α) (l2:List β) {j:Int} {off:Nat} {e e2:TypeId} (hix:idx l j=some y) (hrow2:row y2=(row y).set off (.ow e2 (l2.map rowL)))
  (h:AWP P C n c Q ⟨s,upd (upd m k .dead) q (.dar ((l.set j.toNat y2).map row) e)⟩) (hm:m q=.dah ((l.map row).set j.toNat ((row y).set off .any)) e [(j.toNat,off,k)]:=by conv=>lhs;whnf) (hd:m k=.arr (l2.map rowL) e2 true:=by conv=>lhs;whnf) (hl:(row y).length=sz:=by rfl) (hlt:off < sz:=by decide):AWP P C n c Q ⟨s,m⟩:=by
 have h0:=gW hix;have e1:((l.map row).set j.toNat ((row y).set off .any))[j.toNat]?=some ((row y).set off .any):=by rw [List.getElem?_set_self];simp only [List.length_map];omega
 have e5:((row y).set off .any)[off]?=some T.any:=by rw [List.getElem?_set_self];omega
 have e3:((l.map row).set j.toNat ((row y).set off .any)).set j.toNat (((row y).set off .any).set off (.ow e2 (l2.map rowL)))=(l.set j.toNat y2).map row:=by rw [List.set_set,List.set_set,<- hrow2,List.map_set]
 refine lX ?_ h;rintro x w ⟨G,X,hM,hd',hsz,ht⟩;replace hM:Mem P C m w G X:=hM;have:=Mem.joinDah hM hm hd e1 e5;rw [e3] at this;exact ⟨G,X,this,hd',hsz,ht⟩
theorem zsk {us:List V} {off e:Nat} (h:us[off]?=some .nl):VLe (.ag us) (.ag (us.set off (.t (.sc (.nis e))))):=by
 intro G X x hx;rw [V.Is] at hx ⊢;obtain ⟨xs,rfl,hl⟩:=hx;refine ⟨xs,rfl,V.IsL.of_get (by rw [List.length_set];exact hl.length) fun j v hv=>?_⟩;rw [List.getElem?_set] at hv;split at hv
 ·rename_i hj;subst hj;split at hv
  ·cases hv;obtain ⟨x,hx,hi⟩:=hl.get off _ h;refine ⟨x,hx,?_⟩;rw [V.Is] at hi;rw [V.Is,T.Is];exact hi
  ·cases hv
 ·exact hl.get j v hv
theorem zhz {β:Type} {rowL:β->List T} (h:∀ y,(rowL y).all T.plain=true) {l:List β}:zag (l.map rowL)=true:=by
 unfold zag;simp only [List.all_map,List.all_eq_true];intro y _;exact h y
end
def Hit.rowO (e:Nat) (x:Hit):List T:=[.sc (.int .i64 (x.name.kind)),.sc (.str (x.name.name)),.sc (.int .i64 (x.name.n)),.sl ((x.name.scopes).map rI),.sl ((x.name.kids).map aB.row),.sc (.int .i64 (x.depth)),.sc (.int .i64 (x.one.kind)),.sc (.str (x.one.name)),.sc (.int .i64 (x.one.n)),.sl ((x.one.scopes).map rI),.sl ((x.one.kids).map aB.row),.ow e (x.many.map Hit.row)]
def Hit.rowN (e:Nat) (x:Hit):List T:=[.sc (.int .i64 (x.name.kind)),.sc (.str (x.name.name)),.sc (.int .i64 (x.name.n)),.sl ((x.name.scopes).map rI),.sl ((x.name.kids).map aB.row),.sc (.int .i64 (x.depth)),.sc (.int .i64 (x.one.kind)),.sc (.str (x.one.name)),.sc (.int .i64 (x.one.n)),.sl ((x.one.scopes).map rI),.sl ((x.one.kids).map aB.row),.sc (.nis e)]
theorem Hit.row_plain (x:Hit):x.row.all T.plain=true:=by rw [Hit.row_eq];rfl
theorem Hit.rowO_fzB (e:Nat) (x:Hit):(x.rowO e).all T.fzB=true:=by
 simp only [Hit.rowO,List.all_cons,List.all_nil,T.fzB,Bool.true_and,Bool.and_true];exact zhz Hit.row_plain
theorem Hit.rowO_fzT (e:Nat) (x:Hit):(x.rowO e).map T.fzT=x.row:=by rw [Hit.row_eq];rfl
theorem Hit.rowN_nis {P:Program} {e sz:Nat} (h:kG P e=some sz) (x:Hit):(x.rowN e).all (T.nisB P)=true:=by
 simp only [Hit.rowN,List.all_cons,List.all_nil,T.nisB,h,Option.isSome_some,Bool.and_self]
section
variable {P:Program} {C:Cx} {n:Nat} {ops:Array Oper} {K:List (Nat × Oper × Ev)->St->Prop} {r:List (Oper × Nat)} {acc:List (Nat × Oper × Ev)} {ix:Nat} {s:Nat->V} {m:Nat->Ob} {d:Tmp} {ty:TypeId} {pos:String} {after:Array Edge} {g:Option (Nat × Bool)}
theorem ztk {op:Op} {dst:Option Tmp} {v0 v:V} {u:List (Nat × Ob)} {s':Nat->V} {m':Nat->Ob} {fp:List Nat} (hg:aL n ops ⟨dst,op,ty,pos,after,g⟩ ⟨s,m⟩=some true) (h:lB P (jT ⟨dst,op,ty,pos,after,g⟩) (ev n s) m op=some (v0,u)) (hle:VLe v0 v) (hfp:jI (jT ⟨dst,op,ty,pos,after,g⟩) (ev n s) op=fp)
  (hs:putS s dst v=s') (hm:app m u=m') (hr:Run P n ops K r ((ix,⟨dst,op,ty,pos,after,g⟩,⟨v,u,fp⟩)::acc) ⟨s',m'⟩):Run P n ops K ((⟨dst,op,ty,pos,after,g⟩,ix)::r) acc ⟨s,m⟩:=by
 subst hs;subst hm;subst hfp;exact zso hg h hle (by cases dst<;>exact hr)
theorem zmB {α:Type} {l:List α} {row:α->List T} {t e e':TypeId} {q:Nat} {x:Operand} {fp:List Nat} (ht:P.underlying t=some (.slice e)) (hr:Run P n ops K r ((ix,⟨some d,.call { callee:=.builtin .len,args:=#[x],argTypes:=#[t] },ty,pos,after,g⟩,⟨.t (.sc (.int .i64 (l.length:Nat))),[],fp⟩)::acc) ⟨upd s d (.t (.sc (.int .i64 (l.length:Nat)))),m⟩) (hg:aL n ops ⟨some d,.call { callee:=.builtin .len,args:=#[x],argTypes:=#[t] },ty,pos,after,g⟩ ⟨s,m⟩=some true:=by rfl) (hx:ev n s x=.ar q:=by conv=>lhs;whnf) (hm:m q=.dar (l.map row) e':=by conv=>lhs;whnf) (hfp:jI (jT ⟨some d,.call { callee:=.builtin .len,args:=#[x],argTypes:=#[t] },ty,pos,after,g⟩) (ev n s) (.call { callee:=.builtin .len,args:=#[x],argTypes:=#[t] })=fp:=by rfl):Run P n ops K ((⟨some d,.call { callee:=.builtin .len,args:=#[x],argTypes:=#[t] },ty,pos,after,g⟩,ix)::r) acc ⟨s,m⟩:=zr6 hg ht hx (by simp only [zmO,hm,List.length_map]) hfp hr
theorem xK {α:Type} {l:List α} {y:α} {t:TypeId} {x i:Operand} {e e':TypeId} {sz q:Nat} {k:IntKind} {j:Int} {fp:List Nat} (row:α->List T) (hix:idx l j=some y) (he:zcw P t=some (e,sz)) (hr:Run P n ops K r ((ix,⟨some d,.indexAddr t x i,ty,pos,after,g⟩,⟨.re q j.toNat sz 0,[],fp⟩)::acc) ⟨upd s d (.re q j.toNat sz 0),m⟩) (hg:aL n ops ⟨some d,.indexAddr t x i,ty,pos,after,g⟩ ⟨s,m⟩=some true:=by rfl) (hx:ev n s x=.ar q:=by conv=>lhs;whnf) (hm:m q=.dar (l.map row) e':=by conv=>lhs;whnf) (hi:ev n s i=.t (.sc (.int k j)):=by conv=>lhs;whnf) (hfp:jI (jT ⟨some d,.indexAddr t x i,ty,pos,after,g⟩) (ev n s) (.indexAddr t x i)=fp:=by rfl):Run P n ops K ((⟨some d,.indexAddr t x i,ty,pos,after,g⟩,ix)::r) acc ⟨s,m⟩:=zab hg he hx hi (gW hix).1 (by have:=gW hix;simp only [zaT,hm,List.length_map];rw [if_pos (by omega)]) hfp hr
theorem s_ixH {α:Type} {l:List α} {y:α} {t:TypeId} {x i:Operand} {e e':TypeId} {sz q j2:Nat} {z:List T} {k:IntKind} {j:Int} {fp:List Nat} (row:α->List T) (hix:idx l j=some y) (he:zcw P t=some (e,sz)) (hr:Run P n ops K r ((ix,⟨some d,.indexAddr t x i,ty,pos,after,g⟩,⟨.re q j.toNat sz 0,[],fp⟩)::acc) ⟨upd s d (.re q j.toNat sz 0),m⟩) (hg:aL n ops ⟨some d,.indexAddr t x i,ty,pos,after,g⟩ ⟨s,m⟩=some true:=by rfl) (hx:ev n s x=.ar q:=by conv=>lhs;whnf) (hm:m q=.dar ((l.map row).set j2 z) e':=by conv=>lhs;whnf) (hi:ev n s i=.t (.sc (.int k j)):=by conv=>lhs;whnf) (hfp:jI (jT ⟨some d,.indexAddr t x i,ty,pos,after,g⟩) (ev n s) (.indexAddr t x i)=fp:=by rfl):Run P n ops K ((⟨some d,.indexAddr t x i,ty,pos,after,g⟩,ix)::r) acc ⟨s,m⟩:=zab hg he hx hi (gW hix).1 (by have:=gW hix;simp only [zaT,hm,List.length_set,List.length_map];rw [if_pos (by omega)]) hfp hr
theorem s_ldD {α β:Type} {l:List α} {y:α} {t e e2:TypeId} {x:Operand} {q sz off:Nat} {j:Int} {fp:List Nat} (row:α->List T) (rowL:β->List T) (l2:List β) (hpl:∀ y,(rowL y).all T.plain=true) (hix:idx l j=some y) (ha:n9 P t=some false) (he:kG P e=some sz) (hr:Run P n ops K r ((ix,⟨some d,.load t x,ty,pos,after,g⟩,⟨.ar d,[(q,.dar ((l.map row).set j.toNat ((row y).set off .any)) e),(d,.arr (l2.map rowL) e2 true)],fp⟩)::acc) ⟨upd s d (.ar d),upd (upd m q (.dar ((l.map row).set j.toNat ((row y).set off .any)) e)) d (.arr (l2.map rowL) e2 true)⟩) (hg:aL n ops ⟨some d,.load t x,ty,pos,after,g⟩ ⟨s,m⟩=some true:=by rfl) (hx:ev n s x=.re q j.toNat sz off:=by conv=>lhs;whnf) (hm:m q=.dar (l.map row) e:=by conv=>lhs;whnf) (hw:(row y)[off]?=some (.ow e2 (l2.map rowL)):=by rfl) (h1:qE (m d)=true:=by rfl) (hfp:jI (jT ⟨some d,.load t x,ty,pos,after,g⟩) (ev n s) (.load t x)=fp:=by rfl):Run P n ops K ((⟨some d,.load t x,ty,pos,after,g⟩,ix)::r) acc ⟨s,m⟩:=by
 refine rR (v:=.ar d) (u:=[(q,.dar ((l.map row).set j.toNat ((row y).set off .any)) e),(d,.arr (l2.map rowL) e2 true)]) hg ?_ hfp rfl rfl hr;have hc:oD m (.re q j.toNat sz off)=none:=by simp only [oD,hm]
 simp only [lB,hx,hc,zqn,hm,zhn row hix,hw,zhz hpl,he,ha,jT,Option.getD_some,h1,and_self,if_true]
theorem s_stD {α:Type} {l:List α} {y:α} {t e:TypeId} {p x:Operand} {q k sz off:Nat} {j:Int} (row:α->List T) (hix:idx l j=some y) (hs:kG P t=some 1) (he:kG P e=some sz) (hr:Run P n ops K r ((ix,⟨none,.store t p x,ty,pos,after,g⟩,⟨.jk,[(q,.dah ((l.map row).set j.toNat ((row y).set off .any)) e [(j.toNat,off,k)])],[q]⟩)::acc) ⟨s,upd m q (.dah ((l.map row).set j.toNat ((row y).set off .any)) e [(j.toNat,off,k)])⟩) (hg:aL n ops ⟨none,.store t p x,ty,pos,after,g⟩ ⟨s,m⟩=some true:=by rfl)
  (hp:ev n s p=.re q j.toNat sz off:=by conv=>lhs;whnf) (hm:m q=.dar ((l.map row).set j.toNat ((row y).set off .any)) e:=by conv=>lhs;whnf) (hx:ev n s x=.ar k:=by conv=>lhs;whnf) (hl:(row y).length=sz:=by rfl) (hlt:off < sz:=by decide):Run P n ops K ((⟨none,.store t p x,ty,pos,after,g⟩,ix)::r) acc ⟨s,m⟩:=by
 have h0:=gW hix;have e1:((l.map row).set j.toNat ((row y).set off .any))[j.toNat]?=some ((row y).set off .any):=by rw [List.getElem?_set_self];simp only [List.length_map];omega
 have e5:((row y).set off .any)[off]?=some T.any:=by rw [List.getElem?_set_self];omega
 exact zsn hg rfl hp hx hm e1 e5 he hs hr
theorem s_apD {α:Type} {l l2:List α} {t e:TypeId} {by' sz k:Nat} {x y:Operand} {v:V} {u:List (Nat × Ob)} {m1:Nat->Ob} {fp:List Nat} (row rowN:α->List T) (hN:∀ y,(rowN y).all (T.nisB P)=true) (hrow:∀ y,(rowN y).length=sz) (hO:(l2.map rowN).map (·.map T.nisO)=l2.map row) (hb:decide ((l.length+l2.length)*by'<=140737488355328)=true) (ha:zb2 P t=some (e,by',sz)) (hr:Run P n ops K r ((ix,⟨some d,.call { callee:=.builtin .append,args:=#[x,y],argTypes:=#[t,t] },ty,pos,after,g⟩,⟨.ar d,u++[(k,.dead),(d,.dar ((l++l2).map row) e)],fp⟩)::acc) ⟨upd s d (.ar d),upd (upd m1 k .dead) d (.dar ((l++l2).map row) e)⟩) (hg:aL n ops ⟨some d,.call { callee:=.builtin .append,args:=#[x,y],argTypes:=#[t,t] },ty,pos,after,g⟩ ⟨s,m⟩=some true:=by rfl) (hx:ev n s x=.ar k:=by conv=>lhs;whnf) (hy:ev n s y=v:=by conv=>lhs;whnf) (hv:toT m v=some (.sl (l2.map rowN)):=by first | (conv=>lhs;whnf) | rfl) (h1:qE (m d)=true:=by rfl) (h2:qE (m (d+1000))=true:=by rfl) (h3:d ∉ fz v:=by simp [fz]) (h4:d+1000 ∉ fz v:=by simp [fz]) (hu:fzU m (fz v)=u:=by repeat (first | exact xB | (apply tV;focus ((conv=>lhs;whnf);done)) | (apply tU;focus ((conv=>lhs;whnf);done)))) (hm1:app m u=m1:=by simp only [app];rfl) (hm:m1 k=.dar (l.map row) e:=by conv=>lhs;whnf) (hfp:jI (jT ⟨some d,.call { callee:=.builtin .append,args:=#[x,y],argTypes:=#[t,t] },ty,pos,after,g⟩) (ev n s) (.call { callee:=.builtin .append,args:=#[x,y],argTypes:=#[t,t] })=fp:=by rfl):Run P n ops K ((⟨some d,.call { callee:=.builtin .append,args:=#[x,y],argTypes:=#[t,t] },ty,pos,after,g⟩,ix)::r) acc ⟨s,m⟩:=by
 subst hu;subst hm1;refine rR (v:=.ar d) (u:=fzU m (fz v)++[(k,.dead),(d,.dar ((l++l2).map row) e)]) hg ?_ hfp rfl (by rw [mK];rfl) hr;have hn:((l2.map rowN).all fun r=>r.all (T.nisB P))=true:=by simp only [List.all_map,List.all_eq_true];intro y _;exact hN y
 have B2:(l.length+l2.length)*by'<=140737488355328:=of_decide_eq_true hb;simp only [lB,zjx,zbh,ha,hx,hy,hv,zpn hrow,jT,Option.getD_some,h1,h2,h3,h4,hm,hn,hO,List.length_map,B2,not_false_eq_true,and_self,if_true,<- List.map_append]
theorem ztb {t:TypeId} {parts:Array (Nat × Operand)} {zs us vs:List V} {pl:List (Nat × Nat)} {ps:List (Nat × V)} {fp:List Nat} (off e:Nat) (hz:mG P t=some zs) (hpl:xZ P t=some pl) (hr:Run P n ops K r ((ix,⟨some d,.build t parts,ty,pos,after,g⟩,⟨.ag vs,[],fp⟩)::acc) ⟨upd s d (.ag vs),m⟩) (hg:aL n ops ⟨some d,.build t parts,ty,pos,after,g⟩ ⟨s,m⟩=some true:=by rfl) (hp:parts.toList.map (fun p=>(p.1,ev n s p.2))=ps:=by simp only [zkB,zdH,zhp,zky,tJ,zbm,eX,pR,Nat.reduceLT,Nat.reduceEqDiff,Nat.reduceAdd,reduceIte,if_true,if_false,zjw,ofS,aZ,reduceCtorEq,lA,List.elem_cons,List.elem_nil,Nat.reduceBEq,cond_true,cond_false,beq_self_eq_true,List.take_succ_cons,List.take_zero,List.drop_succ_cons,List.drop_zero,List.take_nil,List.drop_nil,List.nil_append,List.cons_append,List.append_nil,List.length_cons,List.length_nil,List.head?_cons,List.map_cons,List.map_nil,Nat.reduceAdd,Nat.zero_add,List.length_map,List.toList_toArray];rfl) (hf:zg2 (pl[·]?) zs ps=some us:=by simp only [zg2,xC,V.one,bZ,cK,List.take_succ_cons,List.take_zero,List.drop_succ_cons,List.drop_zero,List.take_nil,List.drop_nil,List.nil_append,List.cons_append,List.append_nil,List.length_cons,List.length_nil,List.head?_cons,List.map_cons,List.map_nil,Nat.reduceAdd,Nat.zero_add,List.length_map,List.getElem?_cons_zero,List.getElem?_cons_succ,and_self,if_true,reduceIte,Nat.reduceLeDiff,true_and,and_true,Nat.le_refl];rfl) (hnl:us[off]?=some .nl:=by rfl) (hvs:us.set off (.t (.sc (.nis e)))=vs:=by simp only [List.set_cons_succ,List.set_cons_zero];rfl) (hfp:jI (jT ⟨some d,.build t parts,ty,pos,after,g⟩) (ev n s) (.build t parts)=fp:=by rfl):Run P n ops K ((⟨some d,.build t parts,ty,pos,after,g⟩,ix)::r) acc ⟨s,m⟩:=by
 subst hp;subst hvs;exact ztk (v0:=.ag us) (u:=[]) hg (by simp only [lB,hz,hpl,hf]) (zsk hnl) hfp rfl rfl hr
end
end Go.Abs
end
section
set_option linter.unusedSimpArgs false
set_option linter.unusedVariables false
namespace Go.Abs
section
variable {P:Program} {C:Cx} {n:Nat} {s:Nat->V} {m:Nat->Ob} {w:World} {G:Im} {X:Xm}
theorem zsH {c:Code} {Q:Exit->St->Prop} {cs:List V} (k i:Nat) (ds:List V) (hm:m k=.box cs) (hi:cs[i]?=some .nl) (hd:cs.set i (.t (.sl []))=ds) (h:AWP P C n c Q ⟨s,upd m k (.box ds)⟩):AWP P C n c Q ⟨s,m⟩:=by
 subst hd;refine lX ?_ h;rintro x w ⟨G,X,hM,hd',hsz,ht⟩;replace hM:Mem P C m w G X:=hM;refine ⟨G,X,Mem.less2 hM k _ (fun y hy hok=>?_) ⟨fun h=>by simp at h,fun h=>by rw [hm] at h;cases h⟩,hd',hsz,ht⟩;rw [hm] at hok ⊢;obtain ⟨b,cur,e,rfl,hw,hl,hn⟩:=hok;refine ⟨⟨b,cur,e,rfl,hw,V.IsL.of_get (by rw [List.length_set];exact hl.length) fun j v hv=>?_,hn⟩,fun _ hb=>hb⟩;rw [List.getElem?_set] at hv;split at hv
 ·rename_i hj;subst hj;split at hv
  ·cases hv;obtain ⟨z,hz,hi'⟩:=hl.get i _ hi;refine ⟨z,hz,?_⟩;rw [V.Is] at hi';subst hi';rw [V.Is,T.Is];exact ⟨none,0,0,rfl,Nat.le_refl _,Nat.zero_le _,.inl rfl⟩
  ·cases hv
 ·exact hl.get j v hv
end
end Go.Abs
end
section
set_option linter.unusedSimpArgs false
set_option linter.unusedVariables false
namespace Go.Abs
section
variable {P:Program} {C:Cx} {n:Nat} {ops:Array Oper} {K:List (Nat × Oper × Ev)->St->Prop} {r:List (Oper × Nat)} {acc:List (Nat × Oper × Ev)} {ix:Nat} {s:Nat->V} {m:Nat->Ob} {d:Tmp} {ty:TypeId} {pos:String} {after:Array Edge} {g:Option (Nat × Bool)}
end
section
variable {P:Program} {C:Cx} {n:Nat} {Q:Exit->St->Prop} {s:Nat->V} {m:Nat->Ob}
end
section
variable {P:Program} {n:Nat} {ops:Array Oper} {K:List (Nat × Oper × Ev)->St->Prop} {r:List (Oper × Nat)} {acc:List (Nat × Oper × Ev)} {ix:Nat} {s:Nat->V} {m:Nat->Ob} {d:Tmp} {ty:TypeId} {pos:String} {after:Array Edge} {g:Option (Nat × Bool)}
theorem zfF {x:Operand} {v:V} (hr:Run P n ops K r ((ix,⟨some d,.move x,ty,pos,after,g⟩,⟨v,[],[]⟩)::acc) ⟨upd s d v,m⟩) (hg:aL n ops ⟨some d,.move x,ty,pos,after,g⟩ ⟨s,m⟩=some true:=by rfl) (hx:ev n s x=v:=by conv=>lhs;whnf):Run P n ops K ((⟨some d,.move x,ty,pos,after,g⟩,ix)::r) acc ⟨s,m⟩ :=
 zF hg (fun s' m' h1 h2 C G X w ρ hM hE=>by
  have hx':=hE x;rw [h1 x (by simp [Op.operands])] at hx';have hx2:ev n s x=v:=hx;replace hx':V.Is G X (ev n s x) (ρ x):=hx';rw [hx2] at hx';exact cL hM hx') hr
end
end Go.Abs
end
section
set_option linter.unusedVariables false
set_option linter.unusedSimpArgs false
namespace Go.Abs
theorem zpa:∀ l:List Int,zqk (l.map rB)=some l
 | []=>rfl
 | x::xs=>by
   show zqk ([T.sc (.int .u8 x)]::xs.map rB)=some (x::xs)
   rw [zqk,zpa xs]
section
variable {P:Program} {n:Nat} {ops:Array Oper} {K:List (Nat × Oper × Ev)->St->Prop} {r:List (Oper × Nat)} {acc:List (Nat × Oper × Ev)} {ix:Nat} {s:Nat->V} {m:Nat->Ob} {d:Tmp} {ty:TypeId} {pos:String} {after:Array Edge} {g:Option (Nat × Bool)}
theorem s_bst {l:List Int} {src dst e:TypeId} {x:Operand} {v:V} {u:List (Nat × Ob)} {m1:Nat->Ob} {fp:List Nat} (hs:P.underlying src=some (.slice e)) (hd:P.underlying dst=some .string) (he:zcw P src=some (e,1)) (h8:P.underlying e=some (.int .u8))
  (hr:Run P n ops K r ((ix,⟨some d,.convert src dst x,ty,pos,after,g⟩,⟨.t (.sc (.str (zes l))),u,fp⟩)::acc) ⟨upd s d (.t (.sc (.str (zes l)))),m1⟩)
  (hg:aL n ops ⟨some d,.convert src dst x,ty,pos,after,g⟩ ⟨s,m⟩=some true:=by rfl) (hx:ev n s x=v:=by conv=>lhs;whnf) (hv:toT m v=some (.sl (l.map rB)):=by first | (conv=>lhs;whnf) | rfl)
  (hfu:fzU m (fz v)=u:=by repeat (first | exact xB | (apply tV;focus ((conv=>lhs;whnf);done)) | (apply tU;focus ((conv=>lhs;whnf);done)))) (hm1:app m u=m1:=by simp only [app];rfl)
  (hfp:jI (jT ⟨some d,.convert src dst x,ty,pos,after,g⟩) (ev n s) (.convert src dst x)=fp:=by rfl):Run P n ops K ((⟨some d,.convert src dst x,ty,pos,after,g⟩,ix)::r) acc ⟨s,m⟩:=by
 subst hfu;subst hm1;exact rR (v:=.t (.sc (.str (zes l)))) (u:=fzU m (fz v)) hg (by simp only [lB,zdL,hx,hs,hd,he,h8,hv,zpa]) hfp rfl rfl hr
end
end Go.Abs
end
section
set_option linter.unusedSimpArgs false
set_option linter.unusedVariables false
namespace Go.Abs
mutual
def T.lend:T->T
 | .sc s=>.sc s
 | .sl es=>.sl es
 | .ow _ es=>.sl (T.lendR es)
 | .any=>.any
def T.lendR:List (List T)->List (List T)
 | []=>[]
 | r::rs=>T.lendC r::T.lendR rs
def T.lendC:List T->List T
 | []=>[]
 | t::ts=>t.lend::T.lendC ts
end
theorem T.lendR_len:∀ es:List (List T),(T.lendR es).length=es.length
 | []=>rfl
 | r::rs=>by rw [T.lendR,List.length_cons,List.length_cons,T.lendR_len rs]
theorem T.lendC_len:∀ ts:List T,(T.lendC ts).length=ts.length
 | []=>rfl
 | t::ts=>by rw [T.lendC,List.length_cons,List.length_cons,T.lendC_len ts]
section
variable {P:Program} {G G1:Im} {w:World}
mutual
theorem T.Is_lend (hG:Gle G G1):∀ (t:T) (x:Value),T.IsO P G w t x->(∀ b∈T.reach w t x,G1 b=some (cellsOf w b))->T.Is G1 t.lend x
 | .sc _,x,h,_=>h
 | .sl es,x,h,_=>T.Is.mono hG (.sl es) x h
 | .any,x,h,_=>h
 | .ow e es,x,h,hb=>by
   obtain ⟨xs,i,hi,hown,hr,hn⟩:=h;rcases bP hown with ⟨⟨A,rfl⟩,h0,_⟩ | ⟨g,cap,cur,rfl,hg,hlt,h4,h5,h6,h7,hsub⟩
   ·have:es=[]:=List.eq_nil_of_length_eq_zero h0;subst this;exact ⟨A,0,i.size,rfl,Nat.le_refl _,Nat.zero_le _,.inl rfl⟩
   ·refine ⟨some ⟨g,0,none⟩,cap+1,i.size,by rw [T.lendR_len],by rw [T.lendR_len];exact h4,h5,.inr ⟨g,0,cellsOf w g,rfl,hb g (by rw [T.reach];simp),?_⟩⟩;rw [List.drop_zero];exact T.Rows_lend hG i.size es (cellsOf w g) (T.RowsO.sub i.size es _ _ hsub hr) (fun b h=>hb b (by rw [T.reach];simp [h]))
theorem T.Rows_lend (hG:Gle G G1) (sz:Nat):∀ (es:List (List T)) (l:List Value),T.RowsO P G w sz es l->(∀ b∈T.reachR w es l,G1 b=some (cellsOf w b))->T.Rows G1 sz (T.lendR es) l
 | [],_,_,_=>trivial
 | r::rs,l,h,hb=>by
   rw [T.reachR] at hb;refine ⟨by rw [T.lendC_len];exact h.1,T.Cells_lend hG r l h.2.1 (fun b hh=>hb b (List.mem_append_left _ hh)),T.Rows_lend hG sz rs (l.drop sz) h.2.2 (fun b hh=>hb b (List.mem_append_right _ (by rw [h.1];exact hh)))⟩
theorem T.Cells_lend (hG:Gle G G1):∀ (ts:List T) (l:List Value),T.CellsO P G w ts l->(∀ b∈T.reachC w ts l,G1 b=some (cellsOf w b))->T.Cells G1 (T.lendC ts) l
 | [],_,_,_=>trivial
 | t::ts,l,h,hb=>by
   obtain ⟨⟨c,hc,hi⟩,h2⟩:=h;have e:l.getD 0 .nilIface=c:=by rw [List.getD_eq_getElem?_getD,hc];rfl
   rw [T.reachC,e] at hb;exact ⟨⟨c,hc,T.Is_lend hG t c hi (fun b hh=>hb b (List.mem_append_left _ hh))⟩,T.Cells_lend hG ts (l.drop 1) h2 (fun b hh=>hb b (List.mem_append_right _ hh))⟩
end
mutual
theorem T.reach_cur:∀ (t:T) (x:Value),T.IsO P G w t x->∀ b∈T.reach w t x,∃ cur e fr,w.heap[b]?=some (.cells cur e fr)
 | .sc _,x,_,b,hb=>by cases x<;>simp [T.reach] at hb
 | .sl _,x,_,b,hb=>by cases x<;>simp [T.reach] at hb
 | .any,x,_,b,hb=>by cases x<;>simp [T.reach] at hb
 | .ow e es,x,h,b,hb=>by
   obtain ⟨xs,i,hi,hown,hr,hn⟩:=h;rcases bP hown with ⟨⟨A,rfl⟩,_⟩ | ⟨g,cap,cur,rfl,hg,hlt,_,_,_,_,hsub⟩
   ·rw [lC] at hb;cases hb
   ·rw [T.reach] at hb;rcases List.mem_cons.1 hb with rfl | hb
    ·exact ⟨_,_,_,hg⟩
    ·exact T.reachR_cur i.size es _ (T.RowsO.sub i.size es _ _ hsub hr) b hb
theorem T.reachR_cur (sz:Nat):∀ (es:List (List T)) (l:List Value),T.RowsO P G w sz es l->∀ b∈T.reachR w es l,∃ cur e fr,w.heap[b]?=some (.cells cur e fr)
 | [],_,_,b,hb=>by simp [T.reachR] at hb
 | r::rs,l,h,b,hb=>by
   rw [T.reachR] at hb;rcases List.mem_append.1 hb with hb | hb
   ·exact T.reachC_cur r l h.2.1 b hb
   ·rw [h.1] at hb;exact T.reachR_cur sz rs _ h.2.2 b hb
theorem T.reachC_cur:∀ (ts:List T) (l:List Value),T.CellsO P G w ts l->∀ b∈T.reachC w ts l,∃ cur e fr,w.heap[b]?=some (.cells cur e fr)
 | [],_,_,b,hb=>by simp [T.reachC] at hb
 | t::ts,l,h,b,hb=>by
   obtain ⟨⟨c,hc,hi⟩,h2⟩:=h;rw [T.reachC,List.getD_eq_getElem?_getD,hc] at hb;rcases List.mem_append.1 hb with hb | hb
   ·exact T.reach_cur t c hi b hb
   ·exact T.reachC_cur ts _ h2 b hb
end
end
mutual
def T.flat:T->Bool
 | .sc _=>true
 | .sl _=>false
 | .any=>true
 | .ow _ es=>T.flatR es
def T.flatR:List (List T)->Bool
 | []=>true
 | r::rs=>T.flatC r&&T.flatR rs
def T.flatC:List T->Bool
 | []=>true
 | t::ts=>t.flat&&T.flatC ts
end
section
variable {P:Program} {G G1:Im} {w:World}
mutual
theorem T.IsO_flat:∀ (t:T) (x:Value),t.flat=true->T.IsO P G1 w t x->(∀ b∈T.reach w t x,G b=none)->T.IsO P G w t x
 | .sc _,x,_,h,_=>h
 | .sl es,x,hf,_,_=>by rw [T.flat] at hf;cases hf
 | .any,x,_,h,_=>h
 | .ow e es,x,hf,h,hb=>by
   rw [T.flat] at hf;obtain ⟨xs,i,hi,hown,hr,hn⟩:=h;rcases bP hown with ⟨⟨A,rfl⟩,h0,h1⟩ | ⟨g,cap,cur,rfl,hg,hlt,h4,h5,h6,h7,hsub⟩
   ·have:es=[]:=List.eq_nil_of_length_eq_zero h0;subst this;subst h1;exact ⟨[],i,hi,hown,trivial,fun a n c h=>by cases h⟩
   ·have hR:=T.RowsO_flat i.size es (cellsOf w g) hf (T.RowsO.sub i.size es _ _ hsub hr) (fun b h=>hb b (by rw [T.reach];simp [h]));exact ⟨xs,i,hi,hown,T.RowsO.restrict i.size es xs (cellsOf w g) hsub hr hR,fun a n c h=>by cases h;exact hb g (by rw [T.reach];simp)⟩
theorem T.RowsO_flat (sz:Nat):∀ (es:List (List T)) (l:List Value),T.flatR es=true->T.RowsO P G1 w sz es l->(∀ b∈T.reachR w es l,G b=none)->T.RowsO P G w sz es l
 | [],_,_,_,_=>trivial
 | r::rs,l,hf,h,hb=>by
   rw [T.flatR,Bool.and_eq_true] at hf;rw [T.reachR] at hb;exact ⟨h.1,T.CellsO_flat r l hf.1 h.2.1 (fun b hh=>hb b (List.mem_append_left _ hh)),T.RowsO_flat sz rs (l.drop sz) hf.2 h.2.2 (fun b hh=>hb b (List.mem_append_right _ (by rw [h.1];exact hh)))⟩
theorem T.CellsO_flat:∀ (ts:List T) (l:List Value),T.flatC ts=true->T.CellsO P G1 w ts l->(∀ b∈T.reachC w ts l,G b=none)->T.CellsO P G w ts l
 | [],_,_,_,_=>trivial
 | t::ts,l,hf,h,hb=>by
   rw [T.flatC,Bool.and_eq_true] at hf;obtain ⟨⟨c,hc,hi⟩,h2⟩:=h;have e:l.getD 0 .nilIface=c:=by rw [List.getD_eq_getElem?_getD,hc];rfl
   rw [T.reachC,e] at hb;exact ⟨⟨c,hc,T.IsO_flat t c hf.1 hi (fun b hh=>hb b (List.mem_append_left _ hh))⟩,T.CellsO_flat ts (l.drop 1) hf.2 h2 (fun b hh=>hb b (List.mem_append_right _ hh))⟩
end
theorem T.Cells_flat:∀ (ts:List T) (l:List Value),T.flatC ts=true->T.Cells G1 ts l->T.Cells G ts l
 | [],_,_,_=>trivial
 | t::ts,l,hf,h=>by
   rw [T.flatC,Bool.and_eq_true] at hf;obtain ⟨⟨c,hc,hi⟩,h2⟩:=h;refine ⟨⟨c,hc,?_⟩,T.Cells_flat ts _ hf.2 h2⟩;cases t with
   | sc s=>exact hi
   | any=>exact hi
   | ow e es=>exact hi.elim
   | sl es=>exact absurd hf.1 (by rw [T.flat];decide)
theorem T.Rows_flat (sz:Nat):∀ (es:List (List T)) (l:List Value),T.flatR es=true->T.Rows G1 sz es l->T.Rows G sz es l
 | [],_,_,_=>trivial
 | r::rs,l,hf,h=>by
   rw [T.flatR,Bool.and_eq_true] at hf;exact ⟨h.1,T.Cells_flat r l hf.1 h.2.1,T.Rows_flat sz rs _ hf.2 h.2.2⟩
end
def Ob.flat:Ob->Bool
 | .no | .dead=>true
 | .arr es _ md=>md&&T.flatR es
 | .dar es _=>T.flatR es
 | _=>false
theorem Ob.Ok.flat {P:Program} {G G1:Im} {w:World} {X X1:Xm} {o:Ob} {x:Value} (hf:o.flat=true) (h:Ob.Ok P G1 X1 w o x) (hb:∀ b,o.has w x b->G b=none):Ob.Ok P G X w o x:=by
 cases o with
 | no=>trivial
 | dead=>trivial
 | arr es e md =>
   rw [Ob.flat,Bool.and_eq_true] at hf;obtain ⟨xs,i,hi,hown,hr,hn⟩:=h;refine ⟨xs,i,hi,hown,T.Rows_flat i.size es xs hf.2 hr,fun a n c ha=>?_⟩;subst ha;rw [hf.1];exact hb a.block rfl
 | dar es e =>
   rw [Ob.flat] at hf;exact ⟨T.IsO_flat (.ow e es) x (by rw [T.flat];exact hf) h.1 hb,h.2⟩
 | box cs=>cases hf
 | ro es=>cases hf
 | dah es e hs=>cases hf
 | mp f=>cases hf
 | mpx bm es clock=>cases hf
 | it mo si seen c0=>cases hf
def Ob.lends:Ob->Bool
 | .no=>true
 | .arr _ _ md=>md
 | .dar _ _=>true
 | _=>false
mutual
def V.lend (m:Nat->Ob):V->V
 | .ar k=>match m k with
   | .arr es _ _=>.t (.sl es)
   | .dar es _=>.t (.sl (T.lendR es))
   | _=>.jk
 | .ag cs=>.ag (V.lendL m cs)
 | .t y=>.t y
 | .nl=>.nl
 | .pe cs=>.pe cs
 | .rf k off=>.rf k off
 | .re k i sz off=>.re k i sz off
 | .tp vs=>.tp vs
 | .fn f caps=>.fn f caps
 | .jk=>.jk
 | .ze=>.ze
 | .sn b y=>.sn b y
def V.lendL (m:Nat->Ob):List V->List V
 | []=>[]
 | v::vs=>V.lend m v::V.lendL m vs
end
mutual
def V.lends:V->Bool
 | .t _=>true
 | .nl=>true
 | .ar _=>true
 | .ag cs=>V.lendsL cs
 | .pe _=>false
 | .rf _ _=>false
 | .re _ _ _ _=>false
 | .tp _=>false
 | .fn _ _=>false
 | .jk=>false
 | .ze=>false
 | .sn _ _=>false
def V.lendsL:List V->Bool
 | []=>true
 | v::vs=>v.lends&&V.lendsL vs
end
mutual
def V.flat:V->Bool
 | .t y=>y.flat
 | .nl=>true
 | .ar _=>true
 | .ag cs=>V.flatL cs
 | .tp cs=>V.flatL cs
 | .pe _=>false
 | .rf _ _=>false
 | .re _ _ _ _=>false
 | .fn _ _=>false
 | .jk=>false
 | .ze=>false
 | .sn _ _=>false
def V.flatL:List V->Bool
 | []=>true
 | v::vs=>v.flat&&V.flatL vs
end
section
variable {P:Program} {G G1:Im} {w:World} {X:Xm} {m:Nat->Ob}
mutual
theorem V.Is_lend (hG:Gle G G1) (hm:∀ k x,X k=some x->Ob.Ok P G X w (m k) x) (hl:∀ k,(m k).lends=true) (hno:∀ k x,X k=some x->m k≠.no) (hb:∀ k x b,X k=some x->(m k).has w x b->G1 b=some (cellsOf w b)) (X1:Xm):∀ (v:V) (x:Value),v.lends=true->V.Is G X v x->V.Is G1 X1 (v.lend m) x
 | .t y,x,_,h=>by rw [V.lend];exact T.Is.mono hG y x h
 | .nl,x,_,h=>by rw [V.lend];exact h
 | .ar k,x,_,h=>by
   replace h:X k=some x:=h;have ho:=hm k x h;have hlk:=hl k;have hnk:=hno k x h;have hbk:=fun b=>hb k x b h
   rw [V.lend];cases hmk:m k with
   | no=>exact absurd hmk hnk
   | dead=>rw [hmk] at hlk;cases hlk
   | box cs=>rw [hmk] at hlk;cases hlk
   | ro es=>rw [hmk] at hlk;cases hlk
   | dah es e hs=>rw [hmk] at hlk;cases hlk
   | mp f=>rw [hmk] at hlk;cases hlk
   | mpx bm es clock=>rw [hmk] at hlk;cases hlk
   | it mo si seen c0=>rw [hmk] at hlk;cases hlk
   | arr es e md =>
     rw [hmk] at ho hbk;obtain ⟨xs,i,hi,hown,hr,hn⟩:=ho
     show T.Is G1 (.sl es) x
     rcases bP hown with ⟨⟨A,rfl⟩,h0,_⟩ | ⟨g,cap,cur,rfl,hg,hlt,h4,h5,h6,h7,hsub⟩
     ·have:es=[]:=List.eq_nil_of_length_eq_zero h0;subst this;exact ⟨A,0,i.size,rfl,Nat.le_refl _,Nat.zero_le _,.inl rfl⟩
     ·refine ⟨some ⟨g,0,none⟩,cap+1,i.size,rfl,h4,h5,.inr ⟨g,0,cellsOf w g,rfl,hbk g rfl,?_⟩⟩;rw [List.drop_zero];exact T.Rows.mono hG _ _ _ _ hsub hr
   | dar es e =>
     rw [hmk] at ho hbk;exact T.Is_lend hG (.ow e es) x ho.1 (fun b hh=>hbk b hh)
 | .ag cs,x,hv,h=>by
   obtain ⟨xs,hx,h⟩:=h;rw [V.lend];exact ⟨xs,hx,V.IsL_lend hG hm hl hno hb X1 cs _ (by rw [V.lends] at hv;exact hv) h⟩
 | .pe _,_,hv,_=>by rw [V.lends] at hv;cases hv
 | .rf _ _,_,hv,_=>by rw [V.lends] at hv;cases hv
 | .re _ _ _ _,_,hv,_=>by rw [V.lends] at hv;cases hv
 | .tp _,_,hv,_=>by rw [V.lends] at hv;cases hv
 | .fn _ _,_,hv,_=>by rw [V.lends] at hv;cases hv
 | .jk,_,hv,_=>by rw [V.lends] at hv;cases hv
 | .ze,_,hv,_=>by rw [V.lends] at hv;cases hv
 | .sn _ _,_,hv,_=>by rw [V.lends] at hv;cases hv
theorem V.IsL_lend (hG:Gle G G1) (hm:∀ k x,X k=some x->Ob.Ok P G X w (m k) x) (hl:∀ k,(m k).lends=true) (hno:∀ k x,X k=some x->m k≠.no) (hb:∀ k x b,X k=some x->(m k).has w x b->G1 b=some (cellsOf w b)) (X1:Xm):∀ (vs:List V) (xs:List Value),V.lendsL vs=true->V.IsL G X vs xs->V.IsL G1 X1 (V.lendL m vs) xs
 | [],_,_,h=>h
 | v::vs,_,hv,⟨y,ys,hx,h1,h2⟩=>by
   rw [V.lendsL,Bool.and_eq_true] at hv;exact ⟨y,ys,hx,V.Is_lend hG hm hl hno hb X1 v y hv.1 h1,V.IsL_lend hG hm hl hno hb X1 vs ys hv.2 h2⟩
end
theorem T.Is_flat {t:T} {x:Value} (hf:t.flat=true) (h:T.Is G1 t x):T.Is G t x:=by
 cases t with
 | sc s=>exact h
 | any=>exact h
 | ow e es=>exact h.elim
 | sl es=>rw [T.flat] at hf;cases hf
mutual
theorem V.Is_flat {X1:Xm} (hX:Xle X1 X):∀ (v:V) (x:Value),v.flat=true->V.Is G1 X1 v x->V.Is G X v x
 | .t y,x,hf,h=>by rw [V.flat] at hf;exact T.Is_flat hf h
 | .nl,x,_,h=>h
 | .ar k,x,_,h=>hX k x h
 | .ag cs,x,hf,⟨xs,hx,h⟩=>⟨xs,hx,V.IsL_flat hX cs _ (by rw [V.flat] at hf;exact hf) h⟩
 | .tp cs,x,hf,⟨xs,hx,h⟩=>⟨xs,hx,V.IsL_flat hX cs _ (by rw [V.flat] at hf;exact hf) h⟩
 | .pe _,_,hv,_=>by rw [V.flat] at hv;cases hv
 | .rf _ _,_,hv,_=>by rw [V.flat] at hv;cases hv
 | .re _ _ _ _,_,hv,_=>by rw [V.flat] at hv;cases hv
 | .fn _ _,_,hv,_=>by rw [V.flat] at hv;cases hv
 | .jk,_,hv,_=>by rw [V.flat] at hv;cases hv
 | .ze,_,hv,_=>by rw [V.flat] at hv;cases hv
 | .sn _ _,_,hv,_=>by rw [V.flat] at hv;cases hv
theorem V.IsL_flat {X1:Xm} (hX:Xle X1 X):∀ (vs:List V) (xs:List Value),V.flatL vs=true->V.IsL G1 X1 vs xs->V.IsL G X vs xs
 | [],_,_,h=>h
 | v::vs,_,hv,⟨y,ys,hx,h1,h2⟩=>by
   rw [V.flatL,Bool.and_eq_true] at hv;exact ⟨y,ys,hx,V.Is_flat hX v y hv.1 h1,V.IsL_flat hX vs ys hv.2 h2⟩
end
end
def Ob.or:Ob->Ob->Ob
 | .no,r=>r
 | o,_=>o
theorem Ob.or_no (r:Ob):Ob.or .no r=r:=rfl
theorem Ob.or_of {o:Ob} (h:o≠.no) (r:Ob):o.or r=o:=by cases o<;>first | rfl | exact absurd rfl h
theorem AC.lend {P:Program} {f:FuncId} {args cargs:List V} {os res os2:Nat->Ob} {r:V} (hAC:AC P f cargs aZ r res) (hc:V.lendL os args=cargs) (hl:∀ k,(os k).lends=true) (ha:V.lendsL args=true)
  (hr:r.flat=true) (hf:∀ k,(res k).flat=true) (hdis:∀ k,os k≠.no->res k=.no) (h2:∀ k,os2 k=(os k).or (res k)):AC P f args os r os2:=by
 subst hc;obtain ⟨hfn,hAC⟩:=hAC;refine ⟨hfn,?_⟩;intro w G X own xs hM hx
 classical
 let G1:Im:=fun b=>if (∃ k x,X k=some x/\(os k).has w x b) then some (cellsOf w b) else G b
 have hGn:∀ k x b,X k=some x->(os k).has w x b->G b=none/\∃ cur e fr,w.heap[b]?=some (.cells cur e fr):=by
  intro k x b hk hb;have ho:=hM.ob k x hk;have hlk:=hl k;cases hok:os k with
  | no=>rw [hok] at hb;exact (Ob.has_no hb).elim
  | dead=>rw [hok] at hlk;cases hlk
  | box cs=>rw [hok] at hlk;cases hlk
  | ro es=>rw [hok] at hlk;cases hlk
  | dah es e hs=>rw [hok] at hlk;cases hlk
  | mp f=>rw [hok] at hlk;cases hlk
  | mpx bm es clock=>rw [hok] at hlk;cases hlk
  | it mo si seen c0=>rw [hok] at hlk;cases hlk
  | arr es e md =>
    rw [hok] at ho hb hlk;have hmd:md=true:=hlk;subst hmd;obtain ⟨ys,i,hi,hown,hrr,hn⟩:=ho;obtain ⟨a,n,c,rfl,rfl⟩:=Ob.has_arr'.1 hb;refine ⟨by simpa using hn a n c rfl,?_⟩;rcases bP hown with ⟨⟨A,h⟩,_⟩ | ⟨g,cap,cur,h,hg,_⟩
    ·cases h
    ·cases h;exact ⟨_,_,_,hg⟩
  | dar es e =>
    rw [hok] at ho hb;exact ⟨(T.reach_lt _ _ ho.1 b hb).2,T.reach_cur _ _ ho.1 b hb⟩
 have hG1:∀ k x b,X k=some x->(os k).has w x b->G1 b=some (cellsOf w b):=fun k x b hk hb=>if_pos ⟨k,x,hk,hb⟩
 have hG:Gle G G1:=by
  intro b cs hb;have:¬ ∃ k x,X k=some x/\(os k).has w x b:=by
   rintro ⟨k,x,hk,hh⟩;rw [(hGn k x b hk hh).1] at hb;cases hb
  exact ⟨[],by rw [List.append_nil];show (if _ then _ else _)=_;rw [if_neg this];exact hb⟩
 have hgok:Gok G1 w:=by
  intro b cs hb;by_cases h:∃ k x,X k=some x/\(os k).has w x b
  ·obtain ⟨k,x,hk,hh⟩:=h;rw [hG1 k x b hk hh,Option.some.injEq] at hb;obtain ⟨_,cur,e,fr,hw⟩:=hGn k x b hk hh;refine ⟨cur,e,fr,hw,[],?_⟩;rw [<- hb,List.append_nil];unfold cellsOf;rw [hw]
  ·have:G1 b=G b:=if_neg h;rw [this] at hb;exact hM.gok b cs hb
 have hM0:Mem P ⟨w,G1,fun _=>False,fun _=>none⟩ aZ w G1 (fun _=>none) :=
  ⟨⟨⟨hM.tabW,fun _ _ _ _ _ h=>h⟩,Gle.refl _⟩,fun _ _ _=>rfl,hgok,zdr.refl _ _,fun k x h=>(by cases h),fun k=>⟨fun _=>rfl,fun _=>rfl⟩,fun k k2 x x2 b h=>(by cases h),fun k x b h=>(by cases h),fun k x h=>(by cases h),fun k x h=>(by cases h)⟩
 have hno:∀ k x,X k=some x->os k≠.no:=fun k x h e=>by rw [(hM.free k).2 e] at h;cases h
 refine (hAC w G1 (fun _=>none) (fun _=>False) xs hM0 (V.IsL_lend hG hM.ob hl hno hG1 _ args xs ha hx)).mono ?_;rintro e w' ⟨y,G',X',rfl,hM',hy⟩;have hkeep:∀ b,b < w.heap.size->w'.heap[b]?=w.heap[b]?:=fun b hb=>hM'.keeps.block b hb (fun h=>h)
 have hnew:∀ k x b,X' k=some x->(res k).has w' x b->w.heap.size<=b:=fun k x b hk hb=>(hM'.mine k x b hk hb).resolve_left (fun h=>h)
 have hsame:∀ k x b,X k=some x->(os k).has w x b->w'.heap[b]?=w.heap[b]?:=fun k x b hk hb=>hkeep b (hM.blk_lt hk hb)
 have hhas:∀ k x b,X k=some x->((os k).has w' x b↔(os k).has w x b):=fun k x b hk=>Ob.has_congr (fun b hb=>hsame k x b hk hb) (hM.ob k x hk) b
 let X2:Xm:=fun k=>match X k with
  | some z=>some z
  | none=>X' k
 have hXX:Xle X X2:=fun k z hz=>by show (match X k with | some z=>some z | none=>X' k)=_;rw [hz]
 have hXX':Xle X' X2:=fun k z hz=>by
  have hn:res k≠.no:=fun e=>by rw [(hM'.free k).2 e] at hz;cases hz
  have:X k=none:=(hM.free k).2 (Classical.byContradiction fun h=>hn (hdis k h))
  show (match X k with | some z=>some z | none=>X' k)=_
  rw [this];exact hz
 have hX2:∀ k z,X2 k=some z->(X k=some z/\os2 k=os k)∨(X k=none/\X' k=some z/\os2 k=res k):=fun k z hz=>by
  cases hk:X k with
  | some u =>
    have:X2 k=some u:=hXX k u hk;rw [this] at hz;exact .inl ⟨hz,by rw [h2,Ob.or_of (hno k u hk)]⟩
  | none =>
    have:X2 k=X' k:=by show (match X k with | some z=>some z | none=>X' k)=_;rw [hk]
    rw [this] at hz;exact .inr ⟨rfl,hz,by rw [h2,(hM.free k).1 hk,Ob.or_no]⟩
 have hgw:Gok G w':=fun b cs hb=>by
  obtain ⟨cur,e,fr,hw,hrst⟩:=hM.gok b cs hb;exact ⟨cur,e,fr,by rw [hkeep b (hM.gok.lt hb)];exact hw,hrst⟩
 refine ⟨y,G,X2,rfl,⟨hM.gle,fun _ _ _=>rfl,hgw,⟨hM'.keeps.os,hM'.keeps.tape,hM'.keeps.output,hM'.keeps.size,fun b hb _=>hkeep b hb⟩,?_,?_,?_,?_,?_,hXX⟩,V.Is_flat hXX' r y hr hy⟩
 ·intro k z hz;rcases hX2 k z hz with ⟨hk,ho⟩ | ⟨hk,hk',ho⟩<;>rw [ho]
  ·exact (hM.ob k z hk).mono (Gle.refl G) hXX (fun _ _=>rfl) (fun b hb=>hsame k z b hk hb)
  ·exact Ob.Ok.flat (hf k) (hM'.ob k z hk') (fun b hb=>hM.gok.none (hnew k z b hk' hb))
 ·intro k;rw [h2];by_cases hk:os k=.no
  ·rw [hk,Ob.or_no];have:X2 k=X' k:=by show (match X k with | some z=>some z | none=>X' k)=_;rw [(hM.free k).2 hk]
   rw [this];exact hM'.free k
  ·rw [Ob.or_of hk];refine ⟨fun h=>?_,fun h=>absurd h hk⟩;cases hXk:X k with
   | none=>exact (hM.free k).1 hXk
   | some u=>rw [hXX k u hXk] at h;cases h
 ·intro k k' z z' b hz hz' hb hb';rcases hX2 k z hz with ⟨hk,ho⟩ | ⟨hk,hk1,ho⟩<;>rcases hX2 k' z' hz' with ⟨hk',ho'⟩ | ⟨hk',hk1',ho'⟩<;>rw [ho] at hb<;>rw [ho'] at hb'
  ·exact hM.apart k k' z z' b hk hk' ((hhas k z b hk).1 hb) ((hhas k' z' b hk').1 hb')
  ·have h1:=hM.blk_lt hk ((hhas k z b hk).1 hb);have h3:=hnew k' z' b hk1' hb';omega
  ·have h1:=hM.blk_lt hk' ((hhas k' z' b hk').1 hb');have h3:=hnew k z b hk1 hb;omega
  ·exact hM'.apart k k' z z' b hk1 hk1' hb hb'
 ·intro k z b hz hb;rcases hX2 k z hz with ⟨hk,ho⟩ | ⟨hk,hk1,ho⟩<;>rw [ho] at hb
  ·exact hM.mine k z b hk ((hhas k z b hk).1 hb)
  ·exact .inr (hnew k z b hk1 hb)
 ·intro k z hz;rcases hX2 k z hz with ⟨hk,ho⟩ | ⟨hk,hk1,ho⟩
  ·exact hM.cell k z hk
  ·exact hM'.cell k z hk1
end Go.Abs
end
section
set_option linter.unusedSimpArgs false
set_option linter.unusedVariables false
namespace Go.Abs
theorem zjG:∀ l:List Int,T.lendR (l.map rI)=l.map rI
 | []=>rfl
 | x::xs=>by rw [List.map_cons,T.lendR,zjG xs];rfl
theorem uU:∀ l:List Int,T.flatR (l.map rI)=true
 | []=>rfl
 | x::xs=>by rw [List.map_cons,T.flatR,uU xs];rfl
theorem qL:∀ a b:List T,T.lendC (a++b)=T.lendC a++T.lendC b
 | [],b=>rfl
 | x::a,b=>by rw [List.cons_append,T.lendC,T.lendC,qL a b,List.cons_append]
theorem qN:∀ a b:List T,T.flatC (a++b)=(T.flatC a&&T.flatC b)
 | [],b=>rfl
 | x::a,b=>by rw [List.cons_append,T.flatC,T.flatC,qN a b,Bool.and_assoc]
mutual
def aB.rowD (eI eF:Nat):aB->List T
 | .mk kind name n scopes kids=>[ti kind,zdq name,ti n,.ow eI (scopes.map rI),.ow eF (aB.rowsD eI eF kids)]
def aB.rowsD (eI eF:Nat):List aB->List (List T)
 | []=>[]
 | x::xs=>x.rowD eI eF::aB.rowsD eI eF xs
end
theorem aB.rowsD_eq (eI eF:Nat):∀ l:List aB,aB.rowsD eI eF l=l.map (aB.rowD eI eF)
 | []=>rfl
 | x::xs=>by rw [aB.rowsD,aB.rowsD_eq eI eF xs,List.map_cons]
theorem aB.rowD_eq (eI eF:Nat) (x:aB):x.rowD eI eF=[ti x.kind,zdq x.name,ti x.n,.ow eI (x.scopes.map rI),.ow eF (x.kids.map (aB.rowD eI eF))]:=by
 obtain ⟨a,b,c,d,e⟩:=x;rw [aB.rowD,aB.rowsD_eq];rfl
mutual
theorem aB.lend (eI eF:Nat):∀ x:aB,T.lendC (x.rowD eI eF)=x.row
 | .mk a b c d e=>by
   have h:=aB.lends eI eF e;rw [aB.rowD,aB.row_mk];simp only [T.lendC,T.lend,ti,zdq,zjG,h,aB.rows_eq]
theorem aB.lends (eI eF:Nat):∀ l:List aB,T.lendR (aB.rowsD eI eF l)=aB.rows l
 | []=>rfl
 | x::xs=>by rw [aB.rowsD,T.lendR,aB.lend eI eF x,aB.lends eI eF xs,aB.rows]
end
mutual
theorem aB.flat (eI eF:Nat):∀ x:aB,T.flatC (x.rowD eI eF)=true
 | .mk a b c d e=>by
   have h:=aB.flats eI eF e;rw [aB.rowD];simp only [T.flatC,T.flat,ti,zdq,uU,h,Bool.and_self]
theorem aB.flats (eI eF:Nat):∀ l:List aB,T.flatR (aB.rowsD eI eF l)=true
 | []=>rfl
 | x::xs=>by rw [aB.rowsD,T.flatR,aB.flat eI eF x,aB.flats eI eF xs];rfl
end
mutual
def kH.rowD (eI eF eC:Nat):kH->List T
 | .mk kind id name n ids data kids=>[ti kind,ti id,zdq name,ti n,.ow eI (ids.map rI)]++(data.rowD eI eF++[.ow eC (kH.rowsD eI eF eC kids)])
def kH.rowsD (eI eF eC:Nat):List kH->List (List T)
 | []=>[]
 | x::xs=>x.rowD eI eF eC::kH.rowsD eI eF eC xs
end
mutual
theorem kH.lend (eI eF eC:Nat):∀ x:kH,T.lendC (x.rowD eI eF eC)=x.row
 | .mk a b c d i da e=>by
   have h:=kH.lends eI eF eC e;rw [kH.rowD,kH.row,qL,qL,aB.lend];simp only [T.lendC,T.lend,ti,zdq,zjG,h,wD,List.append_assoc,List.cons_append,List.nil_append]
theorem kH.lends (eI eF eC:Nat):∀ l:List kH,T.lendR (kH.rowsD eI eF eC l)=kH.rows l
 | []=>rfl
 | x::xs=>by rw [kH.rowsD,T.lendR,kH.lend eI eF eC x,kH.lends eI eF eC xs,kH.rows]
end
mutual
def Hit.rowD (eI eF eH:Nat):Hit->List T
 | .mk name depth one many=>name.rowD eI eF++([ti depth]++(one.rowD eI eF++[.ow eH (Hit.rowsD eI eF eH many)]))
def Hit.rowsD (eI eF eH:Nat):List Hit->List (List T)
 | []=>[]
 | x::xs=>x.rowD eI eF eH::Hit.rowsD eI eF eH xs
end
mutual
theorem Hit.lend (eI eF eH:Nat):∀ x:Hit,T.lendC (x.rowD eI eF eH)=x.row
 | .mk a b c d=>by
   have h:=Hit.lends eI eF eH d;rw [Hit.rowD,Hit.row,qL,qL,qL,aB.lend,aB.lend];simp only [T.lendC,T.lend,ti,h,List.append_assoc,List.cons_append,List.nil_append]
theorem Hit.lends (eI eF eH:Nat):∀ l:List Hit,T.lendR (Hit.rowsD eI eF eH l)=Hit.rows l
 | []=>rfl
 | x::xs=>by rw [Hit.rowsD,T.lendR,Hit.lend eI eF eH x,Hit.lends eI eF eH xs,Hit.rows]
end
def aI.rowD (eI eF:Nat) (x:aI):List T:=x.pattern.rowD eI eF++x.template.rowD eI eF
theorem aI.lend (eI eF:Nat) (x:aI):T.lendC (x.rowD eI eF)=x.row:=by
 obtain ⟨a,b⟩:=x;rw [aI.rowD,aI.row,qL,aB.lend,aB.lend];rfl
end Go.Abs
end
section
set_option linter.unusedSimpArgs false
set_option linter.unusedVariables false
namespace Go.Abs
section
variable {P:Program} {C:Cx} {m:Nat->Ob} {w:World} {G:Im} {X:Xm}
theorem Mem.takeLeafH (hM:Mem P C m w G X) {k d:Nat} {es:List (List T)} {e:TypeId} {x:Value} (hm:m k=.dar es e) (hx:X k=some x) (hd:m d=.no)
  {i j:Nat} {r:List T} {e':TypeId} {es':List (List T)} (hi:es[i]?=some r) (hj:r[j]?=some (.ow e' es')) :
  ∃ y inf g n c,P.info? e=some inf/\x=.slice (some ⟨g,0,none⟩) n c/\(cellsOf w g)[i*inf.size+j]?=some y/\Xle X (upd X d (some y)) /\
    Mem P C (upd (upd m k (.dah (es.set i (r.set j .any)) e [(i,j,d)])) d (.dar es' e')) w G (upd X d (some y)):=by
 have ho:=hM.ob k x hx;rw [hm] at ho;obtain ⟨⟨xs,inf,hinf,hown,hr,hn⟩,hnd⟩:=ho;have hil:i < es.length:=(List.getElem?_eq_some_iff.1 hi).1;have hown0:=hown;rcases bP hown with ⟨_,h0,_⟩ | ⟨g,cap,cur,rfl,hg,hlt,h4,h5,h6,h7,hsub⟩
 ·omega
 obtain ⟨y,hy,hyo⟩:=T.RowsO.get hr i j r _ hi hj;have hyc:=hsub _ _ hy;have hperm:=T.reachR_set (w:=w) inf.size es (cellsOf w g) i j r _ (T.RowsO.len hr) hi hj;rw [List.getD_eq_getElem?_getD,hyc,Option.getD_some] at hperm;rw [T.reach] at hnd;obtain ⟨hgn,hnd2⟩:=List.nodup_cons.1 hnd;have hnd3:=hperm.nodup_iff.1 hnd2;obtain ⟨n1,n2,n3⟩:=List.nodup_append.1 hnd3;have hXd:X d=none:=(hM.free d).2 hd;have hkd:k≠d:=by rintro rfl;rw [hx] at hXd;cases hXd
 have hle:=jO (X:=X) (k:=d) (x:=y) hXd;have hkhas:∀ b,b=g∨b∈T.reachR w es (cellsOf w g)->(m k).has w (.slice (some ⟨g,0,none⟩) es.length (cap+1)) b:=fun b hb=>by
  rw [hm];show b∈T.reach w (.ow e es) _
  rw [T.reach];exact List.mem_cons.2 hb
 have hyk:∀ b,b∈T.reach w (.ow e' es') y->(m k).has w (.slice (some ⟨g,0,none⟩) es.length (cap+1)) b:=fun b hb=>hkhas b (.inr (hperm.mem_iff.2 (List.mem_append_left _ hb)))
 have hsk:∀ b,b=g∨b∈T.reachR w (es.set i (r.set j .any)) (cellsOf w g)->(m k).has w (.slice (some ⟨g,0,none⟩) es.length (cap+1)) b:=fun b hb=>hkhas b (hb.imp id fun hb=>hperm.mem_iff.2 (List.mem_append_right _ hb))
 have hmd:upd (upd m k (.dah (es.set i (r.set j .any)) e [(i,j,d)])) d (.dar es' e') d=.dar es' e':=aE _ _ _;have hmk:upd (upd m k (.dah (es.set i (r.set j .any)) e [(i,j,d)])) d (.dar es' e') k=.dah (es.set i (r.set j .any)) e [(i,j,d)]:=by rw [aJ _ _ _ hkd,aE]
 have hmo:∀ k1,k1≠d->k1≠k->upd (upd m k (.dah (es.set i (r.set j .any)) e [(i,j,d)])) d (.dar es' e') k1=m k1:=fun k1 h1 h2=>by rw [aJ _ _ _ h1,aJ _ _ _ h2]
 have hf:∀ k1 x1 b,upd X d (some y) k1=some x1->(upd (upd m k (.dah (es.set i (r.set j .any)) e [(i,j,d)])) d (.dar es' e') k1).has w x1 b ->
   (k1=d/\b∈T.reach w (.ow e' es') y)∨(k1=k/\(b=g∨b∈T.reachR w (es.set i (r.set j .any)) (cellsOf w g)))∨(k1≠d/\k1≠k/\X k1=some x1/\(m k1).has w x1 b):=by
  intro k1 x1 b h1 hb;by_cases e1:k1=d
  ·subst e1;rw [aE] at h1;cases h1;rw [hmd] at hb;exact .inl ⟨rfl,hb⟩
  ·rw [aJ _ _ _ e1] at h1;by_cases e2:k1=k
   ·subst e2;rw [hx] at h1;cases h1;rw [hmk] at hb;replace hb:b∈T.reach w (.ow e (es.set i (r.set j .any))) (.slice (some ⟨g,0,none⟩) es.length (cap+1)):=hb;rw [T.reach] at hb;exact .inr (.inl ⟨rfl,List.mem_cons.1 hb⟩)
   ·rw [hmo k1 e1 e2] at hb;exact .inr (.inr ⟨e1,e2,h1,hb⟩)
 refine ⟨y,inf,g,es.length,cap+1,hinf,rfl,hyc,hle,hM.gle,hM.gold,hM.gok,hM.keeps,?_,?_,?_,?_,?_,fun k1 z hk=>hle k1 z (hM.old k1 z hk)⟩
 ·intro k1 x1 h1;by_cases e1:k1=d
  ·subst e1;rw [aE] at h1;cases h1;rw [hmd];exact ⟨hyo,n1⟩
  ·rw [aJ _ _ _ e1] at h1;by_cases e2:k1=k
   ·subst e2;rw [hx] at h1;cases h1;rw [hmk];refine ⟨⟨xs,inf,hinf,by rw [List.length_set];exact hown0,T.RowsO.set_any i j r hi T.IsO.one hr,hn⟩,?_,fun z hz=>?_⟩
    ·rw [T.reach];exact List.nodup_cons.2 ⟨fun h=>hgn (hperm.mem_iff.2 (List.mem_append_right _ h)),n2⟩
    ·rw [List.mem_singleton] at hz;subst hz;exact ⟨⟨g,0,none⟩,es.length,cap,inf,y,rfl,hinf,aE _ _ _,hyc⟩
   ·rw [hmo k1 e1 e2];exact (hM.ob k1 x1 h1).mono (Gle.refl G) hle (fun _ _=>rfl) (fun _ _=>rfl)
 ·intro k1;by_cases e1:k1=d
  ·subst e1;rw [hmd,aE];simp
  ·rw [aJ _ _ _ e1];by_cases e2:k1=k
   ·subst e2;rw [hmk,hx];simp
   ·rw [hmo k1 e1 e2];exact hM.free k1
 ·intro k1 k2 x1 x2 b h1 h2 B1 B2;rcases hf k1 x1 b h1 B1 with ⟨rfl,q1⟩ | ⟨rfl,q1⟩ | ⟨a1,a2,q1,q2⟩<;>rcases hf k2 x2 b h2 B2 with ⟨e2,p1⟩ | ⟨e2,p1⟩ | ⟨b1,b2,p1,p2⟩
  ·exact e2.symm
  ·rcases p1 with rfl | p1
   ·exact absurd (hperm.mem_iff.2 (List.mem_append_left _ q1)) hgn
   ·exact absurd rfl (n3 b q1 b p1)
  ·exact absurd (hM.apart _ _ _ _ b hx p1 (hyk b q1) p2).symm b2
  ·rcases q1 with rfl | q1
   ·exact absurd (hperm.mem_iff.2 (List.mem_append_left _ p1)) hgn
   ·exact absurd rfl (n3 b p1 b q1)
  ·exact e2.symm
  ·exact absurd (hM.apart _ _ _ _ b hx p1 (hsk b q1) p2).symm b2
  ·exact absurd (hM.apart _ _ _ _ b hx q1 (hyk b p1) q2).symm a2
  ·exact absurd (hM.apart _ _ _ _ b hx q1 (hsk b p1) q2).symm a2
  ·exact hM.apart _ _ _ _ b q1 p1 q2 p2
 ·intro k1 x1 b h1 B1;rcases hf k1 x1 b h1 B1 with ⟨_,q1⟩ | ⟨_,q1⟩ | ⟨_,_,q1,q2⟩
  ·exact hM.mine _ _ _ hx (hyk b q1)
  ·exact hM.mine _ _ _ hx (hsk b q1)
  ·exact hM.mine _ _ _ q1 q2
 ·intro k1 x1 h1;by_cases e1:k1=d
  ·subst e1;rw [aE] at h1;cases h1;exact T.IsO.one _ _ hyo
  ·rw [aJ _ _ _ e1] at h1;exact hM.cell _ _ h1
theorem Mem.putLeafD (hM:Mem P C m w G X) {k d:Nat} {es:List (List T)} {e:TypeId} {g n c:Nat} {y:Value} {cur:Array Value} {inf:TypeInfo} (hm:m k=.dar es e) (hx:X k=some (.slice (some ⟨g,0,none⟩) n c)) (hinf:P.info? e=some inf)
  {i j:Nat} {r:List T} {e':TypeId} {es':List (List T)} (hkd:k≠d) (hd:m d=.dar es' e') (hXd:X d=some y) (hi:es[i]?=some r) (hj:r[j]?=some .any) (hw:w.heap[g]?=some (.cells cur e (0,0))) :
  Mem P C (upd (upd m d .dead) k (.dar (es.set i (r.set j (.ow e' es'))) e)) (w.setRow g (cur.toList.set (i*inf.size+j) y).toArray) G X:=by
 have ho:=hM.ob k _ hx;rw [hm] at ho;obtain ⟨⟨xs,inf1,hinf1,hown,hr,hn⟩,hnd⟩:=ho;rw [hinf] at hinf1;cases hinf1;have hil:i < es.length:=(List.getElem?_eq_some_iff.1 hi).1;have hown0:=hown;rcases bP hown with ⟨_,h00,_⟩ | ⟨g1,cap,cur1,h0,hg,hlt,h4,h5,h6,h7,hsub⟩
 ·omega
 cases h0;rw [hw] at hg;cases hg;have hcel:cellsOf w g=cur.toList:=gV hw;have hGg:G g=none:=hn _ _ _ rfl;have hrl:r.length=inf.size:=T.RowsO.len hr r (List.mem_of_getElem? hi);have hjl:j < inf.size:=by rw [<- hrl];exact (List.getElem?_eq_some_iff.1 hj).1
 have hod:=hM.ob d y hXd;rw [hd] at hod;obtain ⟨hleaf,hndl⟩:=hod;have hreach:∀ b,b∈T.reach w (.ow e' es') y->(m d).has w y b:=fun b hb=>by rw [hd];exact hb
 have hkhas:∀ b,b=g∨b∈T.reachR w es (cellsOf w g)->(m k).has w (.slice (some ⟨g,0,none⟩) es.length (cap+1)) b:=fun b hb=>by
  rw [hm];show b∈T.reach w (.ow e es) _
  rw [T.reach];exact List.mem_cons.2 hb
 have hdg:∀ b,(m d).has w y b->b≠g:=fun b hb h=>hkd (hM.apart k d _ _ b hx hXd (hkhas b (.inl h)) hb)
 rw [T.reach] at hnd;obtain ⟨hgn,hnd2⟩:=List.nodup_cons.1 hnd;generalize hw':w.setRow g (cur.toList.set (i*inf.size+j) y).toArray=w';have hoth:∀ b,b≠g->w'.heap[b]?=w.heap[b]?:=fun b hb=>by rw [<- hw'];exact setRow_other w g b _ hb
 have hwg:w'.heap[g]?=some (.cells (cur.toList.set (i*inf.size+j) y).toArray e (0,0)):=by rw [<- hw'];exact setRow_heap w g cur _ e _ hw
 have hcel':cellsOf w' g=cur.toList.set (i*inf.size+j) y:=by rw [gV hwg]
 have hRc:=T.RowsO.congr (Gle.refl G) (w':=w') inf.size es (cellsOf w g) (fun b hb=>⟨hoth b (fun h=>hgn (h ▸ hb)),rfl⟩) (T.RowsO.sub inf.size es _ _ hsub hr);have hR':=T.RowsO.restrict inf.size es xs (cellsOf w g) hsub hr hRc.1;have hleaf':=T.IsO.congr (Gle.refl G) (w':=w') (.ow e' es') y (fun b hb=>⟨hoth b (hdg b (hreach b hb)),rfl⟩) hleaf;have hRn:=T.RowsO.set i j r hi hjl hleaf'.1 hR';have hxl:xs.length=es.length*inf.size:=hown.1
 -- what it reaches
 have hri:r.set j .any=r:=by
  apply List.ext_getElem?;intro p;rw [List.getElem?_set];split
  ·rename_i h;subst h;rw [hj];simp [hrl,hjl]
  ·rfl
 have hes:(es.set i (r.set j (.ow e' es'))).set i ((r.set j (.ow e' es')).set j .any)=es:=by
  rw [List.set_set,List.set_set,hri];apply List.ext_getElem?;intro p;rw [List.getElem?_set];split
  ·rename_i h;subst h;rw [hi]
  ·rfl
 have hperm:=T.reachR_set (w:=w') inf.size (es.set i (r.set j (.ow e' es'))) (cellsOf w' g) i j (r.set j (.ow e' es')) (.ow e' es') (T.RowsO.len hRn) (by rw [List.getElem?_set];simp [hil]) (by rw [List.getElem?_set];simp [hrl,hjl]);have hpl:i*inf.size+j < cur.toList.length:=by
  have h1:(i+1)*inf.size<=es.length*inf.size:=Nat.mul_le_mul_right _ (by omega);have h2:es.length*inf.size<=(cap+1)*inf.size:=Nat.mul_le_mul_right _ h4;rw [Nat.succ_mul] at h1;simp only [Array.length_toList];omega
 have hget:(cellsOf w' g).getD (i*inf.size+j) .nilIface=y:=by
  rw [hcel',List.getD_eq_getElem?_getD,List.getElem?_set];simp [show i*inf.size+j < cur.size by simpa using hpl]
 have hsame:T.reachR w' es (cellsOf w' g)=T.reachR w es (cellsOf w g):=by
  rw [<- hRc.2];refine T.reachR_agree inf.size es _ _ (T.RowsO.len hr) (fun i' j' r' t' hi' hj' ht'=>?_);rw [hcel',hcel,List.getElem?_set,if_neg];intro he;have hj'l:j' < inf.size:=by rw [<- T.RowsO.len hr r' (List.mem_of_getElem? hi')];exact (List.getElem?_eq_some_iff.1 hj').1
  obtain ⟨rfl,rfl⟩:=zqu hj'l hjl he;rw [hi] at hi';cases hi';rw [hj] at hj';cases hj';exact ht' rfl
 rw [hget,hes,hsame,hleaf'.2] at hperm;have hyk:∀ b,b∈T.reach w (.ow e' es') y->(m d).has w y b:=fun b hb=>hreach b hb
 have hmd:upd (upd m d .dead) k (.dar (es.set i (r.set j (.ow e' es'))) e) d=.dead:=by rw [aJ _ _ _ hkd.symm,aE]
 have hmk:upd (upd m d .dead) k (.dar (es.set i (r.set j (.ow e' es'))) e) k=.dar (es.set i (r.set j (.ow e' es'))) e:=aE _ _ _;have hmo:∀ k1,k1≠d->k1≠k->upd (upd m d .dead) k (.dar (es.set i (r.set j (.ow e' es'))) e) k1=m k1:=fun k1 h1 h2=>by rw [aJ _ _ _ h2,aJ _ _ _ h1]
 have hng:∀ k1 x1,k1≠k->X k1=some x1->∀ b,(m k1).has w x1 b->b≠g:=fun k1 x1 h1 hx1 b hb h=>h1 (hM.apart k1 k x1 _ b hx1 hx hb (hkhas b (.inl h)))
 have hf:∀ k1 x1 b,X k1=some x1->(upd (upd m d .dead) k (.dar (es.set i (r.set j (.ow e' es'))) e) k1).has w' x1 b ->
   (k1=k/\(b∈T.reach w (.ow e' es') y∨(b=g∨b∈T.reachR w es (cellsOf w g))))∨(k1≠d/\k1≠k/\(m k1).has w x1 b):=by
  intro k1 x1 b h1 hb;by_cases e1:k1=d
  ·subst e1;rw [hmd] at hb;exact (Ob.has_dead hb).elim
  ·by_cases e2:k1=k
   ·subst e2;rw [hx] at h1;cases h1;rw [hmk] at hb;replace hb:b∈T.reach w' (.ow e (es.set i (r.set j (.ow e' es')))) (.slice (some ⟨g,0,none⟩) es.length (cap+1)):=hb;rw [T.reach] at hb;refine .inl ⟨rfl,?_⟩;rcases List.mem_cons.1 hb with hb | hb
    ·exact .inr (.inl hb)
    ·rcases List.mem_append.1 (hperm.mem_iff.1 hb) with hb | hb
     ·exact .inl hb
     ·exact .inr (.inr hb)
   ·rw [hmo k1 e1 e2] at hb;exact .inr ⟨e1,e2,(Ob.has_congr (fun b hb=>hoth b (hng k1 x1 e2 h1 b hb)) (hM.ob k1 x1 h1) b).1 hb⟩
 refine ⟨hM.gle,hM.gold,by rw [<- hw'];exact wU hM.gok hGg _,by rw [<- hw'];exact zbt hM.keeps (hM.mine k _ g hx (hkhas g (.inl rfl))) _,?_,?_,?_,?_,hM.cell,hM.old⟩
 ·intro k1 x1 h1;by_cases e1:k1=d
  ·subst e1;rw [hmd];trivial
  ·by_cases e2:k1=k
   ·subst e2;rw [hx] at h1;cases h1;rw [hmk];refine ⟨⟨_,inf,hinf,⟨?_,.inr ⟨g,cap,_,by rw [List.length_set],hwg,by rw [List.length_set];exact h4,h5,?_,?_⟩⟩,hRn,hn⟩,?_⟩
    ·rw [List.length_set,List.length_set];exact hxl
    ·rw [List.size_toArray,List.length_set];simpa using h6
    ·rw [List.length_set]
     show (cur.toList.set (i*inf.size+j) y).take (es.length*inf.size)=xs.set (i*inf.size+j) y
     rw [List.take_set,h7]
    ·rw [T.reach];refine List.nodup_cons.2 ⟨fun h=>?_,hperm.nodup_iff.2 (List.nodup_append.2 ⟨?_,hnd2,fun a ha b hb hab=>?_⟩)⟩
     ·rcases List.mem_append.1 (hperm.mem_iff.1 h) with h | h
      ·exact hdg _ (hyk _ h) rfl
      ·exact hgn h
     ·exact hndl
     ·subst hab;exact hkd (hM.apart _ d _ _ a hx hXd (hkhas a (.inr hb)) (hyk a ha))
   ·rw [hmo k1 e1 e2];exact (hM.ob k1 x1 h1).mono (Gle.refl G) (Xle.refl X) (fun _ _=>rfl) (fun b hb=>hoth b (hng k1 x1 e2 h1 b hb))
 ·intro k1;by_cases e1:k1=d
  ·subst e1;rw [hmd,hXd];simp
  ·by_cases e2:k1=k
   ·subst e2;rw [hmk,hx];simp
   ·rw [hmo k1 e1 e2];exact hM.free k1
 ·have hsrc:∀ k1 x1 b,X k1=some x1->(upd (upd m d .dead) k (.dar (es.set i (r.set j (.ow e' es'))) e) k1).has w' x1 b->∃ k0 x0,X k0=some x0/\(m k0).has w x0 b/\((k1=k/\(k0=d∨k0=k))∨(k1≠d/\k1≠k/\k0=k1)):=by
   intro k1 x1 b h1 hb;rcases hf k1 x1 b h1 hb with ⟨rfl,q | q⟩ | ⟨a1,a2,q⟩
   ·exact ⟨d,y,hXd,hyk b q,.inl ⟨rfl,.inl rfl⟩⟩
   ·exact ⟨k1,_,hx,hkhas b q,.inl ⟨rfl,.inr rfl⟩⟩
   ·exact ⟨k1,x1,h1,q,.inr ⟨a1,a2,rfl⟩⟩
  intro k1 k2 x1 x2 b h1 h2 B1 B2;obtain ⟨p1,z1,a1,a2,a3⟩:=hsrc k1 x1 b h1 B1;obtain ⟨p2,z2,b1,b2,b3⟩:=hsrc k2 x2 b h2 B2;have hpp:=hM.apart p1 p2 z1 z2 b a1 b1 a2 b2;rcases a3 with ⟨rfl,a3⟩ | ⟨a3,a4,rfl⟩<;>rcases b3 with ⟨e2,b3⟩ | ⟨b3,b4,rfl⟩
  ·exact e2.symm
  ·rcases a3 with rfl | rfl
   ·exact absurd hpp.symm b3
   ·exact absurd hpp.symm b4
  ·subst e2;rcases b3 with rfl | rfl
   ·exact absurd hpp a3
   ·exact absurd hpp a4
  ·exact hpp
 ·intro k1 x1 b h1 B1;rcases hf k1 x1 b h1 B1 with ⟨_,q | q⟩ | ⟨_,_,q⟩
  ·exact hM.mine _ _ _ hXd (hyk b q)
  ·exact hM.mine _ _ _ hx (hkhas b q)
  ·exact hM.mine _ _ _ h1 q
theorem Mem.joinHole (hM:Mem P C m w G X) {k d:Nat} {es:List (List T)} {e:TypeId} {i j:Nat} {hs:List (Nat × Nat × Nat)} (hm:m k=.dah es e ((i,j,d)::hs))
  {r:List T} {e':TypeId} {es':List (List T)} (hd:m d=.dar es' e') (hi:es[i]?=some r) (hj:r[j]?=some .any) :
  Mem P C (upd (upd m d .dead) k (.dah (es.set i (r.set j (.ow e' es'))) e hs)) w G X:=by
 cases hx:X k with
 | none=>rw [(hM.free k).1 hx] at hm;cases hm
 | some x =>
   have ho:=hM.ob k x hx;rw [hm] at ho;obtain ⟨h1,h2,h0⟩:=ho;obtain ⟨a,n,c,inf,y,rfl,hinf,hXd,hcell⟩:=h0 (i,j,d) (by simp);have hkd:d≠k:=by rintro rfl;rw [hm] at hd;cases hd
   have h1':=h1;have hil:=(List.getElem?_eq_some_iff.1 hi).1;obtain ⟨xs,inf1,hinf1,hown,hr,hn⟩:=h1';rcases bP hown with ⟨_,h00,_⟩ | ⟨g,cap,cur,h0',hg,hlt,h4,h5,h6,h7,hsub⟩
   ·omega
   cases h0';have hM1:Mem P C (upd m k (.dar es e)) w G X:=Mem.less2 hM k _ (fun x' hx' hok=>by
    rw [hm] at hok ⊢;exact ⟨⟨hok.1,hok.2.1⟩,fun b hb=>hb⟩) ⟨fun h=>by simp at h,fun h=>by rw [hm] at h;cases h⟩
   have h3:=Mem.putLeafD (d:=d) hM1 (aE _ _ _) hx hinf hkd.symm (by rw [aJ _ _ _ hkd];exact hd) hXd hi hj hg;replace hcell:(cellsOf w g)[i*inf.size+j]?=some y:=hcell;rw [gV hg] at hcell;have hset:(cur.toList.set (i*inf.size+j) y).toArray=cur:=by
    have:cur.toList.set (i*inf.size+j) y=cur.toList:=by
     apply List.ext_getElem?;intro p;rw [List.getElem?_set];split
     ·rename_i h;subst h;rw [hcell,if_pos (List.getElem?_eq_some_iff.1 hcell).1]
     ·rfl
    rw [this]
   rw [hset,zhU hg] at h3;have h5:=Mem.less2 h3 k (.dah (es.set i (r.set j (.ow e' es'))) e hs) (fun x' hx' hok=>by
    rw [aE] at hok ⊢;exact ⟨⟨hok.1,hok.2,fun z hz=>by rw [hx] at hx';cases hx';exact h0 z (by simp [hz])⟩,fun b hb=>hb⟩) ⟨fun h=>by simp at h,fun h=>by rw [aE] at h;cases h⟩
   have e1:upd (upd (upd (upd m k (.dar es e)) d .dead) k (.dar (es.set i (r.set j (.ow e' es'))) e)) k (.dah (es.set i (r.set j (.ow e' es'))) e hs)=upd (upd m d .dead) k (.dah (es.set i (r.set j (.ow e' es'))) e hs):=by
    funext q;unfold upd;split
    ·rfl
    ·split<;>rfl
   rw [e1] at h5;exact h5
theorem Mem.noHole (hM:Mem P C m w G X) {k:Nat} {es:List (List T)} {e:TypeId} (hm:m k=.dah es e []):Mem P C (upd m k (.dar es e)) w G X :=
 Mem.less2 hM k _ (fun x' hx' hok=>by
  rw [hm] at hok ⊢;exact ⟨⟨hok.1,hok.2.1⟩,fun b hb=>hb⟩) ⟨fun h=>by simp at h,fun h=>by rw [hm] at h;cases h⟩
end
end Go.Abs
end
section
set_option linter.unusedSimpArgs false
set_option linter.unusedVariables false
namespace Go.Abs
theorem zkI {α:Type} {l vs:List α} {off p:Nat} (hp:p < off) (ho:off<=l.length):(cK l off vs)[p]?=l[p]?:=by
 unfold cK;rw [List.append_assoc,List.getElem?_append_left (by rw [List.length_take];omega),List.getElem?_take_of_lt hp]
theorem zhQ {α:Type} {l vs:List α} {s q:Nat} (h:s+q<=l.length):(cK l (s+q) vs).drop s=cK (l.drop s) q vs:=by
 unfold cK;rw [List.append_assoc,List.drop_append_of_le_length (by rw [List.length_take];omega),List.drop_take,Nat.add_sub_cancel_left,List.drop_drop,List.append_assoc,Nat.add_assoc]
theorem zcO {α:Type} (l vs:List α):cK l 0 vs=vs++l.drop vs.length:=by
 unfold cK;rw [List.take_zero,List.nil_append,Nat.zero_add]
theorem zma {α:Type} {l vs:List α} {off N:Nat} (h:off+vs.length<=N) (hN:N<=l.length):(cK l off vs).take N=cK (l.take N) off vs:=by
 unfold cK;rw [List.take_append,List.take_append,List.length_append,List.length_take,List.take_take,List.take_take,List.drop_take];rw [Nat.min_eq_left (by omega:off<=l.length),Nat.min_eq_right (by omega:off<=N),Nat.min_eq_left (by omega:off<=N)];rw [List.take_of_length_le (by omega:vs.length<=N-off)]
section
variable {P:Program} {C:Cx} {m:Nat->Ob} {w:World} {G:Im} {X:Xm}
theorem T.RowsO_splice {sz:Nat}:∀ {es:List (List T)} {l:List Value} (i:Nat) {fs:List T} {vs:List Value},i < es.length->fs.length=sz->vs.length=sz->T.CellsO P G w fs vs->es.length*sz<=l.length->T.RowsO P G w sz es l->T.RowsO P G w sz (es.set i fs) (cK l (i*sz) vs)
 | [],_,_,_,_,h,_,_,_,_,_=>by simp at h
 | r0::rs,l,0,fs,vs,_,hf,hv,hc,hl,h=>by
   rw [Nat.zero_mul,zcO,List.set_cons_zero];refine ⟨hf,T.CellsO.sub fs _ _ (Sub.append vs _) hc,?_⟩;rw [hv,<- hv,List.drop_left];rw [hv];exact h.2.2
 | r0::rs,l,i+1,fs,vs,hi,hf,hv,hc,hl,h=>by
   have hi':i < rs.length:=by simpa using hi
   rw [List.length_cons,Nat.succ_mul] at hl;have h1:(i+1)*sz<=rs.length*sz:=Nat.mul_le_mul_right _ hi';rw [Nat.succ_mul] at h1;have e:(i+1)*sz=sz+i*sz:=by rw [Nat.succ_mul];omega
   rw [e,List.set_cons_succ];refine ⟨h.1,T.CellsO.agree (fun p hp=>zkI (by rw [h.1] at hp;omega) (by omega)) h.2.1,?_⟩;rw [zhQ (by omega)];exact T.RowsO_splice i hi' hf hv hc (by rw [List.length_drop];omega) h.2.2
theorem T.reachR_splice {sz:Nat}:∀ {es:List (List T)} {l:List Value} (i:Nat) {fs:List T} {vs:List Value},i < es.length->fs.length=sz->vs.length=sz->(∀ l',T.reachC w fs l'=[])->es.length*sz<=l.length->(∀ r∈es,r.length=sz)->(T.reachR w (es.set i fs) (cK l (i*sz) vs)).Sublist (T.reachR w es l)
 | [],_,_,_,_,h,_,_,_,_,_=>by simp at h
 | r0::rs,l,0,fs,vs,_,hf,hv,hc,hl,h=>by
   rw [Nat.zero_mul,zcO,List.set_cons_zero,T.reachR,T.reachR,hc,List.nil_append,hf,h r0 (by simp)];rw [show (vs++l.drop vs.length).drop sz=l.drop sz by rw [<- hv,List.drop_left]];exact List.sublist_append_right _ _
 | r0::rs,l,i+1,fs,vs,hi,hf,hv,hc,hl,h=>by
   have hi':i < rs.length:=by simpa using hi
   have hr0:=h r0 (by simp);rw [List.length_cons,Nat.succ_mul] at hl;have h1:(i+1)*sz<=rs.length*sz:=Nat.mul_le_mul_right _ hi';rw [Nat.succ_mul] at h1;have e:(i+1)*sz=sz+i*sz:=by rw [Nat.succ_mul];omega
   rw [e,List.set_cons_succ,T.reachR,T.reachR,hr0,zhQ (by omega)];rw [T.reachC_agree r0 l _ (fun p t hp _=>zkI (by have:=(List.getElem?_eq_some_iff.1 hp).1;omega) (by omega))];exact List.Sublist.append_left (T.reachR_splice i hi' hf hv hc (by rw [List.length_drop];omega) (fun r hr=>h r (by simp [hr]))) _
theorem Mem.storeRow (hM:Mem P C m w G X) {k:Nat} {es:List (List T)} {e:TypeId} {g n c:Nat} {cur:Array Value} {inf:TypeInfo} (hm:m k=.dar es e) (hx:X k=some (.slice (some ⟨g,0,none⟩) n c)) (hinf:P.info? e=some inf)
  {i:Nat} (hi:i < es.length) {fs:List T} {vs:List Value} (hf:fs.length=inf.size) (hv:vs.length=inf.size) (hc:T.Cells G fs vs) {hs:List (Nat × Nat × Nat)} (hh:∀ h∈hs,h.1=i/\∃ y,X h.2.2=some y/\vs[h.2.1]?=some y) (hw:w.heap[g]?=some (.cells cur e (0,0))) :
  Mem P C (upd m k (.dah (es.set i fs) e hs)) (w.setRow g (cK cur.toList (i*inf.size) vs).toArray) G X:=by
 have ho:=hM.ob k _ hx;rw [hm] at ho;obtain ⟨⟨xs,inf1,hinf1,hown,hr,hn⟩,hnd⟩:=ho;rw [hinf] at hinf1;cases hinf1;have hown0:=hown;rcases bP hown with ⟨_,h00,_⟩ | ⟨g1,cap,cur1,h0,hg,hlt,h4,h5,h6,h7,hsub⟩
 ·omega
 cases h0;rw [hw] at hg;cases hg;have hGg:G g=none:=hn _ _ _ rfl;have hkhas:∀ b,b=g∨b∈T.reachR w es (cellsOf w g)->(m k).has w (.slice (some ⟨g,0,none⟩) es.length (cap+1)) b:=fun b hb=>by
  rw [hm];show b∈T.reach w (.ow e es) _
  rw [T.reach];exact List.mem_cons.2 hb
 rw [T.reach] at hnd;obtain ⟨hgn,hnd2⟩:=List.nodup_cons.1 hnd;have hcel:cellsOf w g=cur.toList:=gV hw;have hxl:xs.length=es.length*inf.size:=hown.1;have h1:(i+1)*inf.size<=es.length*inf.size:=Nat.mul_le_mul_right _ hi;have h2:es.length*inf.size<=(cap+1)*inf.size:=Nat.mul_le_mul_right _ h4;rw [Nat.succ_mul] at h1;have hcl:cur.toList.length=(cap+1)*inf.size:=by rw [Array.length_toList];exact h6
 generalize hw':w.setRow g (cK cur.toList (i*inf.size) vs).toArray=w';have hoth:∀ b,b≠g->w'.heap[b]?=w.heap[b]?:=fun b hb=>by rw [<- hw'];exact setRow_other w g b _ hb
 have hwg:w'.heap[g]?=some (.cells (cK cur.toList (i*inf.size) vs).toArray e (0,0)):=by rw [<- hw'];exact setRow_heap w g cur _ e _ hw
 have hcel':cellsOf w' g=cK cur.toList (i*inf.size) vs:=by rw [gV hwg]
 have hRc:=T.RowsO.congr (Gle.refl G) (w':=w') inf.size es (cellsOf w g) (fun b hb=>⟨hoth b (fun h=>hgn (h ▸ hb)),rfl⟩) (T.RowsO.sub inf.size es _ _ hsub hr);have hR':=T.RowsO.restrict inf.size es xs (cellsOf w g) hsub hr hRc.1;have hcO:T.CellsO P G w' fs vs:=T.CellsO_of fs vs hc;have hRn:=T.RowsO_splice i hi hf hv hcO (by omega) hR';have hsl:=T.reachR_splice (w:=w') (l:=cellsOf w g) i hi hf hv (T.reachC_plain fs vs hc) (by rw [hcel];omega) (T.RowsO.len hr);rw [hcel,<- hcel',<- hcel,hRc.2] at hsl;have hre:T.reach w' (.ow e (es.set i fs)) (.slice (some ⟨g,0,none⟩) es.length (cap+1))=g::T.reachR w' (es.set i fs) (cellsOf w' g):=by rw [T.reach]
 rw [<- hw'] at hre hRn hwg hcel' hsl ⊢;refine Mem.rewrite hM hx (hkhas g (.inl rfl)) hGg _ (.dah (es.set i fs) e hs) (by simp) (fun b hb=>hkhas b ?_) ?_
 ·replace hb:b∈T.reach (w.setRow g (cK cur.toList (i*inf.size) vs).toArray) (.ow e (es.set i fs)) (.slice (some ⟨g,0,none⟩) es.length (cap+1)):=hb;rw [hre] at hb;exact (List.mem_cons.1 hb).imp id (fun h=>hsl.subset h)
 ·refine ⟨⟨_,inf,hinf,⟨?_,.inr ⟨g,cap,_,by rw [List.length_set],hwg,by rw [List.length_set];exact h4,h5,?_,?_⟩⟩,hRn,hn⟩,?_,fun z hz=>?_⟩
  ·rw [List.length_set,mT _ _ _ (by omega)];exact hxl
  ·rw [List.size_toArray,mT _ _ _ (by omega)];exact hcl
  ·rw [List.length_set]
   show (cK cur.toList (i*inf.size) vs).take (es.length*inf.size)=cK xs (i*inf.size) vs
   rw [zma (by omega) (by omega),h7]
  ·rw [hre];exact List.nodup_cons.2 ⟨fun h=>hgn (hsl.subset h),hsl.nodup hnd2⟩
  ·obtain ⟨rfl,y,hXd,hy⟩:=hh z hz;refine ⟨⟨g,0,none⟩,es.length,cap,inf,y,rfl,hinf,hXd,?_⟩
   show (cellsOf _ g)[z.1*inf.size+z.2.1]?=some y
   have hzl:=(List.getElem?_eq_some_iff.1 hy).1;rw [hcel'];unfold cK;rw [List.append_assoc,List.getElem?_append_right (by rw [List.length_take];omega),List.length_take,Nat.min_eq_left (by omega),Nat.add_sub_cancel_left,List.getElem?_append_left hzl];exact hy
end
end Go.Abs
end
section
set_option linter.unusedSimpArgs false
set_option linter.unusedVariables false
namespace Go.Abs
section
variable {P:Program} {C:Cx} {m:Nat->Ob} {w:World} {G:Im} {X:Xm}
theorem zdZ (hM:Mem P C m w G X) {t e:TypeId} {k i sz off d:Nat} {es:List (List T)} {r:List T} {e':TypeId} {es':List (List T)} (hm:m k=.dar es e) (hes:kG P e=some sz) (hi:es[i]?=some r) (hj:r[off]?=some (.ow e' es')) (hd:m d=.no)
  (ht:n9 P t=some false) {ρ:Operand->Value} {o:Oper} {x:Operand} (ho:o.op=.load t x) (hpx:V.Is G X (.re k i sz off) (ρ x)) :
  Did P C m G X ((execOp ρ o).run P w) (.ar d) [(k,.dah (es.set i (r.set off .any)) e [(i,off,d)]),(d,.dar es' e')]:=by
 rw [V.Is] at hpx;obtain ⟨b,n,c,hX,hx⟩:=hpx;obtain ⟨y,inf,g,n',c',hinf,he,hyc,hle,hM'⟩:=hM.takeLeafH hm hX hd hi hj;cases he;have hsz:inf.size=sz:=by simp [kG,hinf] at hes;exact hes
 rw [hsz] at hyc;obtain ⟨cur,e2,fr,hw,hcur⟩:=zfN hyc;obtain ⟨z,hr,hz⟩:=z8 (P:=P) (G:=G) (X:=upd X d (some y)) (t:=t) (cells:=[.ar d]) (v:=.ar d) (by unfold zcy;rw [ht];rfl) hw (o:=i*sz+off) (by
  intro j v hv;cases j with
  | zero =>
    have e1:V.ar d=v:=by simpa using hv
    subst e1;exact ⟨y,by rw [List.getElem?_drop,Nat.add_zero];exact hcur,by rw [V.Is,aE]⟩
  | succ j=>simp at hv)
 refine ⟨.value z,z,w,G,_,?_,.inl rfl,Gle.refl G,hle,hM',hz⟩;simp [execOp,ho,hx,hr]
theorem Mem.setCell (hM:Mem P C m w G X) {k:Nat} {es:List (List T)} {e:TypeId} {g n c:Nat} {y:Value} {cur:Array Value} {inf:TypeInfo} (hm:m k=.dar es e) (hx:X k=some (.slice (some ⟨g,0,none⟩) n c)) (hinf:P.info? e=some inf)
  {i j:Nat} {r:List T} {t0 t:T} (hi:es[i]?=some r) (hj:r[j]?=some t0) (h0:∀ (w:World) x,T.reach w t0 x=[]) (hy:T.Is G t y) (hw:w.heap[g]?=some (.cells cur e (0,0))) :
  Mem P C (upd m k (.dar (es.set i (r.set j t)) e)) (w.setRow g (cur.toList.set (i*inf.size+j) y).toArray) G X:=by
 have ho:=hM.ob k _ hx;rw [hm] at ho;obtain ⟨⟨xs,inf1,hinf1,hown,hr,hn⟩,hnd⟩:=ho;rw [hinf] at hinf1;cases hinf1;have hil:i < es.length:=(List.getElem?_eq_some_iff.1 hi).1;have hown0:=hown;rcases bP hown with ⟨_,h00,_⟩ | ⟨g1,cap,cur1,h0',hg,hlt,h4,h5,h6,h7,hsub⟩
 ·omega
 cases h0';rw [hw] at hg;cases hg;have hcel:cellsOf w g=cur.toList:=gV hw;have hGg:G g=none:=hn _ _ _ rfl;have hrl:r.length=inf.size:=T.RowsO.len hr r (List.mem_of_getElem? hi);have hjl:j < inf.size:=by rw [<- hrl];exact (List.getElem?_eq_some_iff.1 hj).1
 have hkhas:∀ b,b=g∨b∈T.reachR w es (cellsOf w g)->(m k).has w (.slice (some ⟨g,0,none⟩) es.length (cap+1)) b:=fun b hb=>by
  rw [hm];show b∈T.reach w (.ow e es) _
  rw [T.reach];exact List.mem_cons.2 hb
 rw [T.reach] at hnd;obtain ⟨hgn,hnd2⟩:=List.nodup_cons.1 hnd;generalize hw':w.setRow g (cur.toList.set (i*inf.size+j) y).toArray=w';have hoth:∀ b,b≠g->w'.heap[b]?=w.heap[b]?:=fun b hb=>by rw [<- hw'];exact setRow_other w g b _ hb
 have hwg:w'.heap[g]?=some (.cells (cur.toList.set (i*inf.size+j) y).toArray e (0,0)):=by rw [<- hw'];exact setRow_heap w g cur _ e _ hw
 have hcel':cellsOf w' g=cur.toList.set (i*inf.size+j) y:=by rw [gV hwg]
 have hRc:=T.RowsO.congr (Gle.refl G) (w':=w') inf.size es (cellsOf w g) (fun b hb=>⟨hoth b (fun h=>hgn (h ▸ hb)),rfl⟩) (T.RowsO.sub inf.size es _ _ hsub hr);have hR':=T.RowsO.restrict inf.size es xs (cellsOf w g) hsub hr hRc.1;have hRn:=T.RowsO.set (t:=t) i j r hi hjl (T.IsO_of (P:=P) (w:=w') t y hy) hR';have hxl:xs.length=es.length*inf.size:=hown.1;have hset:(es.set i (r.set j t)).set i ((r.set j t).set j .any)=es.set i (r.set j .any):=by rw [List.set_set,List.set_set]
 have hil2:(es.set i (r.set j t))[i]?=some (r.set j t):=by rw [List.getElem?_set];simp [hil]
 have hjl2:(r.set j t)[j]?=some t:=by rw [List.getElem?_set];simp [hrl,hjl]
 have p1:=T.reachR_set (w:=w') inf.size es (cellsOf w g) i j r t0 (T.RowsO.len hr) hi hj;have p2:=T.reachR_set (w:=w') inf.size (es.set i (r.set j t)) (cellsOf w' g) i j (r.set j t) t (T.RowsO.len hRn) hil2 hjl2;rw [h0,List.nil_append] at p1;rw [T.reach_plain t y hy,List.nil_append,hset] at p2;have hlen2:∀ q∈es.set i (r.set j .any),q.length=inf.size:=fun q hq=>by
  rcases List.mem_or_eq_of_mem_set hq with h | h
  ·exact T.RowsO.len hr q h
  ·rw [h,List.length_set];exact hrl
 have hag:T.reachR w' (es.set i (r.set j .any)) (cellsOf w' g)=T.reachR w' (es.set i (r.set j .any)) (cellsOf w g):=by
  refine T.reachR_agree inf.size _ _ _ hlen2 (fun i' j' r' t' hi' hj' ht'=>?_);rw [hcel',hcel,List.getElem?_set,if_neg];intro he;have hj'l:j' < inf.size:=by rw [<- hlen2 r' (List.mem_of_getElem? hi')];exact (List.getElem?_eq_some_iff.1 hj').1
  obtain ⟨rfl,rfl⟩:=zqu hj'l hjl he;rw [List.getElem?_set,if_pos rfl,if_pos hil,Option.some.injEq] at hi';subst hi';rw [List.getElem?_set,if_pos rfl,if_pos (by rw [hrl];exact hjl),Option.some.injEq] at hj';exact ht' hj'.symm
 rw [hag] at p2;have hperm:=p2.trans p1.symm;rw [hRc.2] at hperm;have hre:T.reach w' (.ow e (es.set i (r.set j t))) (.slice (some ⟨g,0,none⟩) es.length (cap+1))=g::T.reachR w' (es.set i (r.set j t)) (cellsOf w' g):=by rw [T.reach]
 rw [<- hw'] at hre hRn hwg hcel' hperm ⊢;refine Mem.rewrite hM hx (hkhas g (.inl rfl)) hGg _ (.dar (es.set i (r.set j t)) e) (by simp) (fun b hb=>hkhas b ?_) ?_
 ·replace hb:b∈T.reach (w.setRow g (cur.toList.set (i*inf.size+j) y).toArray) (.ow e (es.set i (r.set j t))) (.slice (some ⟨g,0,none⟩) es.length (cap+1)):=hb;rw [hre] at hb;exact (List.mem_cons.1 hb).imp id (fun h=>hperm.mem_iff.1 h)
 ·refine ⟨⟨_,inf,hinf,⟨?_,.inr ⟨g,cap,_,by rw [List.length_set],hwg,by rw [List.length_set];exact h4,h5,?_,?_⟩⟩,hRn,hn⟩,?_⟩
  ·rw [List.length_set,List.length_set];exact hxl
  ·rw [List.size_toArray,List.length_set];simpa using h6
  ·rw [List.length_set]
   show (cur.toList.set (i*inf.size+j) y).take (es.length*inf.size)=xs.set (i*inf.size+j) y
   rw [List.take_set,h7]
  ·rw [hre];exact List.nodup_cons.2 ⟨fun h=>hgn (hperm.mem_iff.1 h),hperm.nodup_iff.2 hnd2⟩
theorem ziQ (hM:Mem P C m w G X) {t e:TypeId} {k i sz off:Nat} {t0 u:T} {es:List (List T)} {r:List T} (hm:m k=.dar es e) (hes:kG P e=some sz) (hi:es[i]?=some r) (hj:r[off]?=some t0) (h0:∀ (w:World) x,T.reach w t0 x=[])
  (hsz:kG P t=some 1) {ρ:Operand->Value} {o:Oper} {p x:Operand} (ho:o.op=.store t p x) (hp:V.Is G X (.re k i sz off) (ρ p)) (hv:V.Is G X (.t u) (ρ x)) :
  Did P C m G X ((execOp ρ o).run P w) .jk [(k,.dar (es.set i (r.set off u)) e)]:=by
 rw [V.Is] at hp;rw [V.Is] at hv;obtain ⟨b,n,c,hX,hpx⟩:=hp;have hob:=hM.ob k _ hX;rw [hm] at hob;obtain ⟨⟨xs,inf,hinf,hown,hr,hn⟩,_⟩:=hob;have hinfs:inf.size=sz:=by simp [kG,hinf] at hes;exact hes
 have hil:i < es.length:=(List.getElem?_eq_some_iff.1 hi).1;have hrl:r.length=sz:=by rw [<- hinfs];exact T.RowsO.len hr r (List.mem_of_getElem? hi)
 have hol:off < sz:=by rw [<- hrl];exact (List.getElem?_eq_some_iff.1 hj).1
 rcases bP hown with ⟨_,h00,_⟩ | ⟨g,cap,cur,h0,hg,_,h4,_,h6,_,_⟩
 ·omega
 cases h0;have hone:=T.Is.one hv;have hcells:(ρ x).cells=#[ρ x]:=by
  cases hρ:ρ x<;>rw [hρ] at hone<;>first | rfl | (simp [Value.oneCell'] at hone)
 have hlt:i*sz+off < cur.toList.length:=by
  have h1:(i+1)*sz<=es.length*sz:=Nat.mul_le_mul_right _ (by omega);have h2:es.length*sz<=(cap+1)*sz:=Nat.mul_le_mul_right _ h4;rw [Nat.succ_mul] at h1;rw [hinfs] at h6;simp only [Array.length_toList];omega
 have hrun:=u2 (P:=P) (w:=w) (x:=ρ x) (b:=b) (off:=i*sz+off) (t:=t) hsz (by rw [hcells];rfl) (by rw [hcells];intro z hz;simp at hz;subst hz;exact hone) hg (by simp at hlt;omega);have hput:=hM.setCell hm hX hinf hi hj h0 hv hg;rw [hinfs] at hput;refine ⟨.skip,undef,_,G,X,by simp [execOp,ho,hpx,hrun];rfl,.inr ⟨rfl,rfl⟩,Gle.refl G,Xle.refl X,?_,trivial⟩;rw [hcells];rw [show cK cur.toList (i*sz+off) (#[ρ x]:Array Value).toList=cur.toList.set (i*sz+off) (ρ x) from zeI _ _ _ hlt];exact hput
end
end Go.Abs
end
section
set_option linter.unusedVariables false
set_option linter.unusedSimpArgs false
namespace Go.Abs
inductive zh8:List V->List T->Prop
 | nil:zh8 [] []
 | t {x:T} {vs:List V} {fs:List T}:zh8 vs fs->zh8 (.t x::vs) (x::fs)
 | ar {k:Nat} {vs:List V} {fs:List T}:zh8 vs fs->zh8 (.ar k::vs) (.any::fs)
 | nl {e:TypeId} {vs:List V} {fs:List T}:zh8 vs fs->zh8 (.nl::vs) (.sc (.nis e)::fs)
section
variable {P:Program} {C:Cx} {m:Nat->Ob} {w:World} {G:Im} {X:Xm}
theorem zh8.cells (hX:∀ k y,X k=some y->y.oneCell'=true):∀ {vs:List V} {fs:List T} {xs:List Value},zh8 vs fs->V.IsL G X vs xs->T.Cells G fs xs/\xs.length=fs.length
 | _,_,xs,.nil,h=>by
   replace h:xs=[]:=h;subst h;exact ⟨trivial,rfl⟩
 | _,_,_,.t hr,⟨y,ys,rfl,h1,h2⟩=>by
   obtain ⟨a,b⟩:=zh8.cells hX hr h2;exact ⟨⟨⟨y,rfl,h1⟩,a⟩,by simp [b]⟩
 | _,_,_,.ar hr,⟨y,ys,rfl,h1,h2⟩=>by
   obtain ⟨a,b⟩:=zh8.cells hX hr h2;exact ⟨⟨⟨y,rfl,hX _ _ h1⟩,a⟩,by simp [b]⟩
 | _,_,_,.nl hr,⟨y,ys,rfl,h1,h2⟩=>by
   obtain ⟨a,b⟩:=zh8.cells hX hr h2;exact ⟨⟨⟨y,rfl,by rw [V.Is] at h1;rw [T.Is,h1];rfl⟩,a⟩,by simp [b]⟩
theorem zh8.one (hX:∀ k y,X k=some y->y.oneCell'=true):∀ {vs:List V} {fs:List T} {xs:List Value},zh8 vs fs->V.IsL G X vs xs->∀ c∈xs,c.oneCell'=true
 | _,_,xs,.nil,h,c,hc=>by
   replace h:xs=[]:=h;subst h;cases hc
 | _,_,_,.t hr,⟨y,ys,rfl,h1,h2⟩,c,hc=>by
   rcases List.mem_cons.1 hc with rfl | hc
   ·exact T.Is.one h1
   ·exact zh8.one hX hr h2 c hc
 | _,_,_,.ar hr,⟨y,ys,rfl,h1,h2⟩,c,hc=>by
   rcases List.mem_cons.1 hc with rfl | hc
   ·exact hX _ _ h1
   ·exact zh8.one hX hr h2 c hc
 | _,_,_,.nl hr,⟨y,ys,rfl,h1,h2⟩,c,hc=>by
   rcases List.mem_cons.1 hc with rfl | hc
   ·rw [V.Is] at h1;rw [h1];rfl
   ·exact zh8.one hX hr h2 c hc
def zbi (vs:List V) (i:Nat):List (Nat × Nat × Nat)->Prop
 | []=>True
 | h::hs=>(h.1=i/\vs[h.2.1]?=some (.ar h.2.2))/\zbi vs i hs
theorem zbi.get {vs:List V} {i:Nat}:∀ {hs:List (Nat × Nat × Nat)},zbi vs i hs->∀ h∈hs,h.1=i/\vs[h.2.1]?=some (.ar h.2.2)
 | x::hs,hh,h,hm=>by
   rcases List.mem_cons.1 hm with rfl | hm
   ·exact hh.1
   ·exact zbi.get hh.2 h hm
theorem zj4 (hM:Mem P C m w G X) {t e:TypeId} {k i sz:Nat} {es:List (List T)} {vs:List V} {fs:List T} {hs:List (Nat × Nat × Nat)} (hm:m k=.dar es e) (hes:kG P e=some sz) (hi:i < es.length) (hsz:kG P t=some sz) (hr:zh8 vs fs) (hl:fs.length=sz) (hh:zbi vs i hs)
  {ρ:Operand->Value} {o:Oper} {p x:Operand} (ho:o.op=.store t p x) (hp:V.Is G X (.re k i sz 0) (ρ p)) (hv:V.Is G X (.ag vs) (ρ x)) :
  Did P C m G X ((execOp ρ o).run P w) .jk [(k,.dah (es.set i fs) e hs)]:=by
 rw [V.Is] at hp;rw [V.Is] at hv;obtain ⟨b,n,c,hX,hpx⟩:=hp;rw [Nat.add_zero] at hpx;obtain ⟨xs,hxx,hxs⟩:=hv;have hob:=hM.ob k _ hX;rw [hm] at hob;obtain ⟨⟨ys,inf,hinf,hown,hrr,hn⟩,_⟩:=hob;have hinfs:inf.size=sz:=by simp [kG,hinf] at hes;exact hes
 obtain ⟨C1,C2⟩:=hr.cells hM.cell hxs;rcases bP hown with ⟨_,h00,_⟩ | ⟨g,cap,cur,h0,hg,_,h4,_,h6,_,_⟩
 ·omega
 cases h0;have hcells:(ρ x).cells=xs:=by rw [hxx];rfl
 have h1:(i+1)*sz<=es.length*sz:=Nat.mul_le_mul_right _ (by omega);have h2:es.length*sz<=(cap+1)*sz:=Nat.mul_le_mul_right _ h4;rw [Nat.succ_mul] at h1;rw [hinfs] at h6;have hxl:xs.toList.length=sz:=by rw [C2,hl]
 have hrun:=u2 (P:=P) (w:=w) (x:=ρ x) (b:=b) (off:=i*sz) (t:=t) hsz (by rw [hcells];simpa using hxl) (by rw [hcells];exact hr.one hM.cell hxs) hg (by omega);have hput:=hM.storeRow (i:=i) (fs:=fs) (vs:=xs.toList) (hs:=hs) hm hX hinf hi (by rw [hinfs];exact hl) (by rw [hinfs];exact hxl) C1 (fun h hmem=>by
  obtain ⟨q1,q2⟩:=hh.get h hmem;obtain ⟨y,hy,hyX⟩:=hxs.get _ _ q2;exact ⟨q1,y,hyX,hy⟩) hg
 rw [hinfs] at hput;refine ⟨.skip,undef,_,G,X,by simp [execOp,ho,hpx,hrun];rfl,.inr ⟨rfl,rfl⟩,Gle.refl G,Xle.refl X,?_,trivial⟩;rw [hcells];exact hput
theorem Mem.toDah (hM:Mem P C m w G X) {k:Nat} {es:List (List T)} {e:TypeId} {g n c:Nat} {inf:TypeInfo} (hm:m k=.dar es e) (hx:X k=some (.slice (some ⟨g,0,none⟩) n (c+1))) (hinf:P.info? e=some inf) {hs:List (Nat × Nat × Nat)}
  (hh:∀ h∈hs,∃ y,X h.2.2=some y/\(cellsOf w g)[h.1*inf.size+h.2.1]?=some y):Mem P C (upd m k (.dah es e hs)) w G X :=
 Mem.less2 hM k _ (fun x' hx' hok=>by
  rw [hx] at hx';cases hx';rw [hm] at hok ⊢;exact ⟨⟨hok.1,hok.2,fun h hmem=>by
   obtain ⟨y,h1,h2⟩:=hh h hmem;exact ⟨_,_,_,inf,y,rfl,hinf,h1,h2⟩⟩,fun b hb=>hb⟩) ⟨fun h=>by simp at h,fun h=>by rw [hm] at h;cases h⟩
theorem Mem.toDarN (hM:Mem P C m w G X) {k:Nat} {es:List (List T)} {e:TypeId} (hm:m k=.arr es e true) (hn:(es.all fun r=>r.all (T.nisB P))=true):Mem P C (upd m k (.dar (es.map (·.map T.nisO)) e)) w G X:=by
 refine Mem.less2 hM k _ (fun x hx hok=>?_) ⟨fun h=>by simp at h,fun h=>by rw [hm] at h;cases h⟩;rw [hm] at hok ⊢;obtain ⟨xs,i,hi,hown,hr,hg⟩:=hok;have hO:=fun l (h:T.Rows G i.size es l)=>T.RowsO_nis (P:=P) (w:=w) i.size es l hn h
 have hre:T.reach w (.ow e (es.map (·.map T.nisO))) x=zqt x:=by
  rcases bP hown with ⟨⟨A,rfl⟩,_⟩ | ⟨g,cap,cur,rfl,hg2,hlt,h4,h5,h6,h7,hsub⟩
  ·rw [lC];cases A<;>rfl
  ·rw [T.reach,(hO _ (T.Rows.mono (Gle.refl G) i.size es _ _ hsub hr)).2];rfl
 refine ⟨⟨⟨xs,i,hi,by rw [List.length_map];exact hown,(hO xs hr).1,fun a n c hx=>by simpa using hg a n c hx⟩,?_⟩,fun b hb=>?_⟩
 ·rw [hre];cases x<;>first | exact List.nodup_nil | (rename_i a _ c;cases a<;>cases c<;>simp [zqt])
 ·replace hb:b∈T.reach w (.ow e (es.map (·.map T.nisO))) x:=by
   cases x<;>first | exact hb | (rename_i a _ _;cases a<;>exact hb)
  rw [hre] at hb;rcases bP hown with ⟨⟨A,rfl⟩,_⟩ | ⟨g,cap,cur,rfl,_⟩
  ·cases A<;>cases hb
  ·exact List.mem_singleton.1 hb
inductive zos:List V->List T->Prop
 | nil:zos [] []
 | t {x:T} {vs:List V} {fs:List T}:zos vs fs->zos (.t x::vs) (x::fs)
 | nl {e:TypeId} {vs:List V} {fs:List T}:zos vs fs->zos (.nl::vs) (.sc (.nis e)::fs)
theorem zos.up:∀ {vs:List V} {fs:List T} {xs:List Value},zos vs fs->V.IsL G X vs xs->V.IsL G X (fs.map .t) xs
 | _,_,_,.nil,h=>h
 | _,_,_,.t hr,⟨y,ys,hx,h1,h2⟩=>⟨y,ys,hx,h1,zos.up hr h2⟩
 | _,_,_,.nl hr,⟨y,ys,hx,h1,h2⟩=>⟨y,ys,hx,by rw [V.Is] at h1;rw [V.Is,T.Is,h1];rfl,zos.up hr h2⟩
theorem zoX:∀ (m:Nat->Ob) (fs:List T),zaC m (fs.map .t)=some fs
 | m,[]=>rfl
 | m,f::fs=>by rw [List.map_cons,zaC,zoX m fs];rfl
theorem zs3:∀ fs:List T,(fs.map V.t).flatMap fz=[]
 | []=>rfl
 | f::fs=>by rw [List.map_cons,List.flatMap_cons,zs3 fs];rfl
theorem zpU (hM:Mem P C m w G X) {id:Nat} (hid:m id=.no) {t e:TypeId} {by' sz:Nat} {zs:List V} {fs:List T} (ht:zb2 P t=some (e,by',sz)) (hz:mG P e=some zs) (hrel:zos zs fs) (hfl:fs.length=sz) (hnb:fs.all (T.nisB P)=true) {k k':IntKind} {n:Nat} (hn:n*by'<=140737488355328)
  {ρ:Operand->Value} {o:Oper} {x y:Operand} (ho:o.op=.makeSlice t x y) (hx:ρ x=.int k n) (hy:ρ y=.int k' n) :
  Did P C m G X ((execOp ρ o).run P w) (.ar id) [(id,.dar ((List.replicate n fs).map (·.map T.nisO)) e)]:=by
 obtain ⟨i,z,hu,hi,hzz,hzs,hby,hsz,B0,hs0⟩:=tX ht;have hzV:V.IsL G X (fs.map .t) z.cells.toList:=by
  refine hrel.up ?_;unfold mG at hz;rw [hi] at hz;simp [hzz] at hz;exact ziX G X hz
 obtain ⟨hrows,hsize⟩:=zhs hzV (fun m'=>zoX m' fs) hM (zs3 fs) (sz:=sz) (by rw [<- hsz];exact hzs) hs0 n;have hnb2:n<=n*by':=Nat.le_mul_of_pos_right _ B0;have hmax:(List.replicate n fs).length<=maxLen:=by simp only [List.length_replicate,maxLen];omega
 subst hsz;obtain ⟨hM2,hX2⟩:=hM.newArr hid _ e i hi _ hrows (by simp) hmax;have hM3:=hM2.toDarN (k:=id) (aE _ _ _) (by
  rw [List.all_eq_true];intro r hr;rw [List.eq_of_mem_replicate hr];exact hnb)
 rw [za0] at hM3;refine ⟨.value (.slice (some ⟨w.heap.size,0,none⟩) n n),_,_,G,_,?_,.inl rfl,Gle.refl G,hX2,hM3,by rw [V.Is];simp [aE]⟩;have hw:IntKind.i64.wrap (n:Int)=n:=IntWalk.i64_in _ (by omega);have hneg:¬ ((n:Int) < 0):=by omega
 subst hby;have B2:¬ ((281474976710656:Int) < (i.bytes:Int)*(n:Int)):=by
  have:((i.bytes*n:Nat):Int)<=140737488355328:=by rw [Nat.mul_comm];omega
  rw [Int.natCast_mul] at this;omega
 by_cases h0:n*i.size=0
 ·have hn0:n=0:=by rcases Nat.mul_eq_zero.1 h0 with h | h;exact h;omega
  subst hn0;have hw0:IntKind.i64.wrap 0=0:=by simpa using hw
  simp [execOp,ho,hx,hy,Instr.makeSlice,run_underlying hu,asInt,asIntOf,sizeOf,typeInfo,zeroValue,hi,hzz,hw0,newRow,Array.range_zero']
 ·simp [execOp,ho,hx,hy,Instr.makeSlice,run_underlying hu,asInt,asIntOf,sizeOf,typeInfo,zeroValue,hi,hzz,hw,B2,h0,hneg,newRow]
theorem zkf (hM:Mem P C m w G X) {id:Nat} (hid:m id=.no) {t e:TypeId} {by' sz:Nat} {vs:List V} {fs:List T} {hs:List (Nat × Nat × Nat)} (ht:zb2 P t=some (e,by',sz)) (hsm:sz<=16777216) (hr:zh8 vs fs) (hl:fs.length=sz) (hh:zbi vs 0 hs)
  {ρ:Operand->Value} {o:Oper} {x:Operand} (ho:o.op=.buildSlice t 1 #[(0,x)]) (hv:V.Is G X (.ag vs) (ρ x)) :
  Did P C m G X ((execOp ρ o).run P w) (.ar id) [(id,.dah [fs] e hs)]:=by
 obtain ⟨i,z,hu,hi,hzz,hzs,hby,hsz,B0,hs0⟩:=tX ht;rw [V.Is] at hv;obtain ⟨xs,hxx,hxs⟩:=hv;obtain ⟨C1,C2⟩:=hr.cells hM.cell hxs;have hxl:xs.toList.length=sz:=by rw [C2,hl]
 subst hsz;have hrows:T.Rows G i.size [fs] xs.toList:=⟨hl,C1,trivial⟩
 obtain ⟨hM2,hX2⟩:=hM.newArr hid xs e i hi [fs] hrows (by simpa using hxl) (by simp [maxLen]);have hM3:=hM2.toDar (k:=id) (aE _ _ _);have hM4:=hM3.toDah (k:=id) (g:=w.heap.size) (c:=0) (hs:=hs) (aE _ _ _) (by rw [aE];rfl) hi (fun h hmem=>by
  obtain ⟨q1,q2⟩:=hh.get h hmem;obtain ⟨y,hy,hyX⟩:=hxs.get _ _ q2;refine ⟨y,hX2 _ _ hyX,?_⟩;rw [q1,Nat.zero_mul,Nat.zero_add,gV (heap_alloc_new w _)];exact hy)
 rw [za0,za0] at hM4;refine ⟨.value (.slice (some ⟨w.heap.size,0,none⟩) 1 1),_,_,G,_,?_,.inl rfl,Gle.refl G,hX2,hM4,by rw [V.Is];exact aE _ _ _⟩;have hfill:∀ c0:Array Value,c0.size=i.size->Instr.fill (fun x=>some (x*i.size,i.size)) c0 [(0,ρ x)]=some xs:=by
  intro c0 h0;have hset:=zgM [] xs.toList 0 0 c0 (by simp at hxl ⊢;omega);have hxx2:(ρ x).cells=xs:=by rw [hxx];rfl
  simp only [Instr.fill,hxx2,Nat.zero_mul];rw [if_neg (by simp at hxl ⊢;omega)];congr 1;apply Array.ext';have hfold:(xs.zipIdx.foldl (fun cs (p:Value × Nat)=>cs.setIfInBounds (0+p.2) p.1) c0).toList=cK c0.toList 0 xs.toList:=by
   rw [<- Array.foldl_toList,Array.toList_zipIdx];simpa using hset
  rw [hfold,zcO,List.drop_of_length_le (by simp at hxl ⊢;omega),List.append_nil]
 have hbig:¬ (1*i.size > 2 ^ 24):=by omega
 have h0:¬ (1*i.size=0):=by omega
 have h1:=hfill ((Array.range (1*i.size)).map (fun x=>z.cells[x % z.cells.size]!)) (by simp);simp only [Nat.one_mul] at h1 hbig h0;simp [execOp,ho,Instr.buildSlice,run_underlying hu,sizeOf,typeInfo,zeroValue,hi,hzz,hbig,h0,h1,newRow]
end
end Go.Abs
end
section
set_option linter.unusedVariables false
set_option linter.unusedSimpArgs false
namespace Go.Abs
def T.noOw:T->Bool
 | .ow _ _=>false
 | _=>true
section
variable {P:Program} {C:Cx} {m:Nat->Ob} {w:World} {G:Im} {X:Xm}
theorem zja {w:World}:∀ (t:T) (x:Value),t.noOw=true->T.reach w t x=[]
 | .sc s,x,_=>by cases x<;>rfl
 | .sl es,x,_=>by cases x<;>rfl
 | .any,x,_=>by cases x<;>rfl
 | .ow _ _,x,h=>by cases h
theorem zhW {w:World}:∀ (ts:List T) (l:List Value),ts.all T.noOw=true->T.reachC w ts l=[]
 | [],l,_=>by rw [T.reachC]
 | t::ts,l,h=>by
   rw [List.all_cons,Bool.and_eq_true] at h;rw [T.reachC,zja t _ h.1,zhW ts _ h.2];rfl
theorem zhV {w:World}:∀ (es:List (List T)) (l:List Value),(es.all fun r=>r.all T.noOw)=true->T.reachR w es l=[]
 | [],l,_=>by rw [T.reachR]
 | r::es,l,h=>by
   rw [List.all_cons,Bool.and_eq_true] at h;rw [T.reachR,zhW r _ h.1,zhV es _ h.2];rfl
theorem zp7 {sz:Nat} {es:List (List T)} {l:List Value} (h:T.RowsO P G w sz es l) (hl:l.length=es.length*sz):∀ u∈l,u.oneCell'=true:=by
 intro u hu;obtain ⟨p,hp,hpu⟩:=List.getElem_of_mem hu;have hsz:0 < sz:=by
  rcases Nat.eq_zero_or_pos sz with h0 | h0
  ·rw [h0,Nat.mul_zero] at hl;omega
  ·exact h0
 have hi:p / sz < es.length:=by rw [Nat.div_lt_iff_lt_mul hsz];omega
 have hj:p % sz < sz:=Nat.mod_lt _ hsz;have hr:=T.RowsO.len h es[p / sz] (List.getElem_mem hi);obtain ⟨x,hx,hix⟩:=T.RowsO.get h (p / sz) (p % sz) es[p / sz] (es[p / sz][p % sz]'(by omega)) (List.getElem?_eq_getElem hi) (List.getElem?_eq_getElem (by omega));rw [show p / sz*sz+p % sz=p by rw [Nat.mul_comm];exact Nat.div_add_mod p sz] at hx;rw [List.getElem?_eq_getElem hp] at hx;cases hx;rw [<- hpu];exact T.IsO.one _ _ hix
theorem Mem.appendDarX (hM:Mem P C m w G X) {k id:Nat} {es fs:List (List T)} {e:TypeId} {x:Value} (hm:m k=.dar es e) (hx:X k=some x) (hid:m id=.no)
  (t ty:TypeId) (i:TypeInfo) (z:Value) (ht:P.underlying t=some (.slice e)) (hi:P.info? e=some i) (hz:i.zero=some z) (hzs:z.cells.size=i.size)
  (B:Option Addr) (c:Nat) (news:List Value) (hl:news.length=fs.length*i.size) (hr2:T.RowsO P G w i.size fs news) (hre:T.reachR w fs news=[])
  (hnews:fs.length=0∨∃ a,B=some a/\∀ j u,news[j]?=some u->w.cell? (a.add j)=some u) (h1:∀ u∈news,u.oneCell'=true) (hbytes:(es.length+fs.length)*i.bytes<=140737488355328) (h63:es.length+fs.length<=maxLen) :
  ∃ v' w',(Builtin.append_ #[t,t] ty #[x,.slice B fs.length c]).run P w=.ok v' w'/\Xle X (upd X id (some v')) /\
    (fs=[]∨∃ g n' c',v'=.slice (some ⟨g,0,none⟩) n' (c'+1)/\∀ (j:Nat) u,news[j]?=some u->(cellsOf w' g)[es.length*i.size+j]?=some u) /\
    Mem P C (upd (upd m k .dead) id (.dar (es++fs) e)) w' G (upd X id (some v')):=by
 have hXid:X id=none:=(hM.free id).2 hid;have hkid:k≠id:=by rintro rfl;rw [hx] at hXid;cases hXid
 have ho:=hM.ob k x hx;rw [hm] at ho;obtain ⟨⟨xs,i',hi',hown,hr,hn⟩,hnd⟩:=ho;rw [hi] at hi';cases hi';obtain ⟨v',w',hrun,hown',hcases⟩:=u5 (P:=P) t ty e i z ht hi hz hzs x es.length xs hown B c fs.length news hl hnews h1 hbytes h63;have hxl:xs.length=es.length*i.size:=hown.1;have hlen:=T.RowsO.len hr
 -- what x reaches
 obtain ⟨N,hNr,hNk,hNn,hNo⟩:∃ N:List Nat,(∀ l,(∀ p,p < es.length*i.size->l[p]?=xs[p]?)->T.reachR w es l=N)/\(∀ b∈N,(m k).has w x b)/\N.Nodup /\
   (∀ g n c,x=.slice (some ⟨g,0,none⟩) n (c+1)->g ∉ N/\(m k).has w x g):=by
  refine ⟨T.reachR w es xs,fun l h=>T.reachR_pre i.size hlen h,?_⟩;rcases bP hown with ⟨⟨A,rfl⟩,h0,_⟩ | ⟨g,cap,cur,rfl,hg,_,_,_,_,_,hsub⟩
  ·have:es=[]:=List.eq_nil_of_length_eq_zero h0;subst this;exact ⟨fun b hb=>(by cases hb),List.nodup_nil,fun g n c h=>(by cases h)⟩
  ·have hsame:T.reachR w es (cellsOf w g)=T.reachR w es xs:=T.reachR_pre i.size hlen (fun p hp=>by
    have hp2:p < xs.length:=by omega
    rw [List.getElem?_eq_getElem hp2];exact hsub _ _ (List.getElem?_eq_getElem hp2))
   rw [T.reach,hsame] at hnd;obtain ⟨a1,a2⟩:=List.nodup_cons.1 hnd;refine ⟨fun b hb=>?_,a2,fun g1 n1 c1 h=>?_⟩
   ·rw [hm];show b∈T.reach w (.ow e es) _
    rw [T.reach,hsame];exact List.mem_cons_of_mem _ hb
   ·cases h;refine ⟨a1,?_⟩;rw [hm];show g∈T.reach w (.ow e es) _
    rw [T.reach];simp
 have hNlt:∀ b∈N,b < w.heap.size:=fun b hb=>hM.blk_lt hx (hNk b hb)
 -- the block of the answer
 have key:((∃ A,v'=.slice A 0 0)/\es=[]/\fs=[])∨∃ g n' c' rest,v'=.slice (some ⟨g,0,none⟩) n' (c'+1)/\cellsOf w' g=(xs++news)++rest/\G g=none/\g ∉ N/\((m k).has w x g∨g=w.heap.size):=by
  rcases bP hown' with ⟨hv,h0,_⟩ | ⟨g,cap,cur,rfl,hg,_,_,_,_,h7,_⟩
  ·exact .inl ⟨hv,List.eq_nil_of_length_eq_zero (by omega),List.eq_nil_of_length_eq_zero (by omega)⟩
  ·refine .inr ⟨g,_,cap,cur.toList.drop ((es.length+fs.length)*i.size),rfl,by rw [gV hg,<- h7,List.take_append_drop],?_⟩;rcases hcases with ⟨h1,_,_⟩ | ⟨g1,cap1,cur1,cur',rest,h1,h2,_⟩ | ⟨cap',cur',rest,h1,_,_⟩
   ·exact ⟨hn _ _ _ h1.symm,(hNo _ _ _ h1.symm).1,.inl (hNo _ _ _ h1.symm).2⟩
   ·cases h2;exact ⟨hn _ _ _ h1,(hNo _ _ _ h1).1,.inl (hNo _ _ _ h1).2⟩
   ·cases h1;exact ⟨hM.gok.none (Nat.le_refl _),fun h=>absurd (hNlt _ h) (by omega),.inr rfl⟩
 have hw:∀ b,b < w.heap.size->(∀ g n c,x=.slice (some ⟨g,0,none⟩) n (c+1)->b≠g)->w'.heap[b]?=w.heap[b]?:=by
  intro b hb hbg;rcases hcases with ⟨_,rfl,_⟩ | ⟨g,cap,cur,cur',rest,hxg,_,hg,rfl,_⟩ | ⟨cap',cur',rest,_,rfl,_⟩
  ·rfl
  ·exact setRow_other w g b _ (hbg _ _ _ hxg)
  ·exact zd (w:=w.drew) hb
 have hgl:Gok G w'/\w'.os=w.os/\w'.tape=w.tape/\w'.output=w.output/\w.heap.size<=w'.heap.size:=by
  rcases hcases with ⟨_,rfl,_⟩ | ⟨g,cap,cur,cur',rest,rfl,_,hg,rfl,_⟩ | ⟨cap',cur',rest,_,rfl,_⟩
  ·exact ⟨hM.gok,rfl,rfl,rfl,Nat.le_refl _⟩
  ·exact ⟨wU hM.gok (hn _ _ _ rfl) _,rfl,rfl,rfl,by simp⟩
  ·exact ⟨Gok.alloc (w:=w.drew) hM.gok _,rfl,rfl,rfl,by simp⟩
 have hone:v'.oneCell'=true:=by rcases key with ⟨⟨A,rfl⟩,_⟩ | ⟨g,n',c',rest,rfl,_⟩<;>rfl
 have hwk:∀ b,b < w.heap.size->¬ (m k).has w x b->w'.heap[b]?=w.heap[b]?:=fun b hb hnb=>hw b hb (fun g n c hxg h=>hnb (h ▸ (hNo g n c hxg).2))
 have hwN:∀ b∈N,w'.heap[b]?=w.heap[b]?:=fun b hb=>hw b (hNlt b hb) (fun g n c hxg h=>(hNo g n c hxg).1 (h ▸ hb))
 -- the rows in the new world
 have hes:T.RowsO P G w' i.size es xs/\T.reachR w' es xs=N:=by
  have hN:T.reachR w es xs=N:=hNr xs (fun _ _=>rfl);have:=T.RowsO.congr (Gle.refl G) (w':=w') i.size es xs (fun b hb=>⟨hwN b (by rw [<- hN];exact hb),rfl⟩) hr;exact ⟨this.1,this.2.trans hN⟩
 have hfs:=T.RowsO.congr (Gle.refl G) (w':=w') i.size fs news (fun b hb=>by rw [hre] at hb;cases hb) hr2;rw [hre] at hfs;have hRn:=T.RowsO.append hxl hes.1 hfs.1;have hreach:∀ g rest,cellsOf w' g=(xs++news)++rest->T.reachR w' (es++fs) (cellsOf w' g)=N:=by
  intro g rest hc;rw [T.reachR_append i.size es fs _ hlen];have a1:T.reachR w' es (cellsOf w' g)=T.reachR w' es xs:=T.reachR_pre i.size hlen (fun p hp=>by
   rw [hc,List.append_assoc,List.getElem?_append_left (by omega)])
  have a2:T.reachR w' fs ((cellsOf w' g).drop (es.length*i.size))=T.reachR w' fs news:=T.reachR_pre i.size (T.RowsO.len hr2) (fun p hp=>by
   rw [hc,List.append_assoc,<- hxl,List.drop_left,List.getElem?_append_left (by omega)])
  rw [a1,a2,hes.2,hfs.2,List.append_nil]
 have hmd:upd (upd m k Ob.dead) id (.dar (es++fs) e) id=.dar (es++fs) e:=aE _ _ _;have hmk:upd (upd m k Ob.dead) id (.dar (es++fs) e) k=.dead:=by rw [aJ _ _ _ hkid,aE]
 have hmo:∀ k1,k1≠id->k1≠k->upd (upd m k Ob.dead) id (.dar (es++fs) e) k1=m k1:=fun k1 a b=>by rw [aJ _ _ _ a,aJ _ _ _ b]
 have hnew:∀ b,b∈T.reach w' (.ow e (es++fs)) v'->(m k).has w x b∨b=w.heap.size:=by
  intro b hb;rcases key with ⟨⟨A,rfl⟩,_⟩ | ⟨g,n',c',rest,rfl,hc,_,_,hg⟩
  ·rw [lC] at hb;cases hb
  ·rw [T.reach,hreach g rest hc] at hb;rcases List.mem_cons.1 hb with rfl | hb
   ·exact hg
   ·exact .inl (hNk b hb)
 have hh:∀ k1 y b,k1≠k->X k1=some y->(m k1).has w' y b->(m k1).has w y b:=fun k1 y b hk hy hb =>
  (Ob.has_congr (fun b2 B2=>hwk b2 (hM.blk_lt hy B2) (fun B3=>hk (hM.apart k1 k y x b2 hy hx B2 B3))) (hM.ob k1 y hy) b).1 hb
 have hsrc:∀ k1 y b,upd X id (some v') k1=some y->(upd (upd m k Ob.dead) id (.dar (es++fs) e) k1).has w' y b->(k1=id/\((m k).has w x b∨b=w.heap.size))∨(k1≠id/\k1≠k/\X k1=some y/\(m k1).has w y b):=by
  intro k1 y b hy hb;by_cases e1:k1=id
  ·subst e1;rw [aE] at hy;cases hy;rw [hmd] at hb;exact .inl ⟨rfl,hnew b hb⟩
  ·rw [aJ _ _ _ e1] at hy;by_cases e2:k1=k
   ·subst e2;rw [hmk] at hb;exact (Ob.has_dead hb).elim
   ·rw [hmo k1 e1 e2] at hb;exact .inr ⟨e1,e2,hy,hh k1 y b e2 hy hb⟩
 have hex:fs=[]∨∃ g n' c',v'=.slice (some ⟨g,0,none⟩) n' (c'+1)/\∀ (j:Nat) u,news[j]?=some u->(cellsOf w' g)[es.length*i.size+j]?=some u:=by
  rcases key with ⟨_,_,h⟩ | ⟨g,n',c',rest,hv,hc,_⟩
  ·exact .inl h
  ·refine .inr ⟨g,n',c',hv,fun j u hj=>?_⟩;have hjl:=(List.getElem?_eq_some_iff.1 hj).1;rw [hc,List.append_assoc,<- hxl,List.getElem?_append_right (by omega),Nat.add_sub_cancel_left,List.getElem?_append_left hjl];exact hj
 refine ⟨v',w',hrun,jO hXid,hex,hM.gle,hM.gold,hgl.1,⟨hgl.2.1.trans hM.keeps.os,hgl.2.2.1.trans hM.keeps.tape,hgl.2.2.2.1.trans hM.keeps.output,Nat.le_trans hM.keeps.size hgl.2.2.2.2,fun b hb hnb=>?_⟩,?_,?_,?_,?_,?_,fun k1 y hk=>jO hXid k1 y (hM.old k1 y hk)⟩
 ·rw [hwk b (by have:=hM.keeps.size;omega) (fun hb'=>?_)]
  ·exact hM.keeps.block b hb hnb
  ·rcases hM.mine k x b hx hb' with h3 | h3
   ·exact hnb h3
   ·omega
 ·intro k1 y hy;by_cases e1:k1=id
  ·subst e1;rw [aE] at hy;cases hy;rw [hmd];refine ⟨⟨xs++news,i,hi,by rw [List.length_append];exact hown',hRn,fun a n1 c1 ha=>?_⟩,?_⟩
   ·rcases key with ⟨hA,_⟩ | ⟨g,n',c',rest,rfl,_,hg,_⟩
    ·obtain ⟨A,rfl⟩:=hA;simp at ha
    ·cases ha;exact hg
   ·rcases key with ⟨⟨A,rfl⟩,_⟩ | ⟨g,n',c',rest,rfl,hc,_,hgN,_⟩
    ·rw [lC];exact List.nodup_nil
    ·rw [T.reach,hreach g rest hc];exact List.nodup_cons.2 ⟨hgN,hNn⟩
  ·rw [aJ _ _ _ e1] at hy;by_cases e2:k1=k
   ·subst e2;rw [hmk];trivial
   ·rw [hmo k1 e1 e2];exact (hM.ob k1 y hy).mono (Gle.refl G) (jO hXid) (fun _ _=>rfl) (fun b hb=>hwk b (hM.blk_lt hy hb) (fun hb'=>e2 (hM.apart k1 k y x b hy hx hb hb')))
 ·intro k1;by_cases e1:k1=id
  ·subst e1;rw [hmd,aE];simp
  ·rw [aJ _ _ _ e1];by_cases e2:k1=k
   ·subst e2;rw [hmk,hx];simp
   ·rw [hmo k1 e1 e2];exact hM.free k1
 ·intro k1 k2 y1 y2 b h1 h2 B1 B2;rcases hsrc k1 y1 b h1 B1 with ⟨rfl,q1⟩ | ⟨a1,a2,q1,q2⟩<;>rcases hsrc k2 y2 b h2 B2 with ⟨e2,p1⟩ | ⟨b1,b2,p1,p2⟩
  ·exact e2.symm
  ·rcases q1 with q1 | rfl
   ·exact absurd (hM.apart k k2 _ _ b hx p1 q1 p2).symm b2
   ·exact absurd (hM.blk_lt p1 p2) (by omega)
  ·rcases p1 with p1 | rfl
   ·exact absurd (hM.apart k k1 _ _ b hx q1 p1 q2).symm a2
   ·exact absurd (hM.blk_lt q1 q2) (by omega)
  ·exact hM.apart _ _ _ _ b q1 p1 q2 p2
 ·intro k1 y b hy hb;rcases hsrc k1 y b hy hb with ⟨_,q | rfl⟩ | ⟨_,_,q1,q2⟩
  ·exact hM.mine _ _ _ hx q
  ·exact .inr hM.keeps.size
  ·exact hM.mine _ _ _ q1 q2
 ·intro k1 y hy;by_cases e1:k1=id
  ·subst e1;rw [aE] at hy;cases hy;exact hone
  ·rw [aJ _ _ _ e1] at hy;exact hM.cell _ _ hy
theorem ziU (hM:Mem P C m w G X) {id k q:Nat} (hid:m id=.no) {t e:TypeId} {by' sz:Nat} (ht:zb2 P t=some (e,by',sz)) {es fl:List (List T)} {hs:List (Nat × Nat × Nat)}
  (hm:m k=.dar es e) (hq:m q=.dah fl e hs) (hne:fl≠[]) (hno:(fl.all fun r=>r.all T.noOw)=true) (hb:(es.length+fl.length)*by'<=140737488355328) (hlt:∀ h∈hs,h.1 < fl.length/\h.2.1 < sz) {ρ:Operand->Value} {o:Oper} {x y:Operand}
  (ho:o.op=.call { callee:=.builtin .append,args:=#[x,y],argTypes:=#[t,t] }) (hx:V.Is G X (.ar k) (ρ x)) (hy:V.Is G X (.ar q) (ρ y)) :
  Did P C m G X ((execOp ρ o).run P w) (.ar id) [(k,.dead),(q,.dead),(id,.dah (es++fl) e (hs.map fun h=>(es.length+h.1,h.2)))]:=by
 obtain ⟨i,z,hu,hi,hz,hzs,hby,hsz,B0,hs0⟩:=tX ht;rw [V.Is] at hx hy;have h63:es.length+fl.length<=maxLen:=by
  have:es.length+fl.length<=(es.length+fl.length)*by':=Nat.le_mul_of_pos_right _ B0;simp only [maxLen];omega
 have hob:=hM.ob q _ hy;rw [hq] at hob;obtain ⟨⟨ys,inf,hinf,hown,hrr,hn⟩,hnd,hholes⟩:=hob;rw [hi] at hinf;cases hinf;have hfl:0 < fl.length:=List.length_pos_iff.2 hne;rcases bP hown with ⟨_,h00,_⟩ | ⟨g,cap,cur,hyv,hg,hgl,h4,h5,h6,h7,hsub⟩
 ·omega
 subst hsz;subst hby;have hyl:ys.length=fl.length*i.size:=hown.1;have hcell:∀ (j:Nat) u,ys[j]?=some u->w.cell? (Addr.add ⟨g,0,none⟩ j)=some u:=fun j u hj=>by
  have:=hsub j u hj;rw [gV hg] at this;rw [Addr.add_lit,Nat.zero_add,zjK hg];simpa using this
 have hidk:id≠k:=fun h=>by rw [h,hm] at hid;cases hid
 have hidq:id≠q:=fun h=>by rw [h,hq] at hid;cases hid
 have hkq:k≠q:=fun h=>by rw [h,hq] at hm;cases hm
 obtain ⟨v',w',hrun,hX',hex,hM'⟩:=hM.appendDarX (id:=id) (fs:=fl) hm hx hid t o.type i z hu hi hz hzs (some ⟨g,0,none⟩) (cap+1) ys hyl hrr (zhV fl ys hno) (.inr ⟨_,rfl,hcell⟩) (zp7 hrr hyl) hb h63;rw [<- hyv] at hrun;obtain ⟨g',n',c',hv',hnew⟩:=hex.resolve_left hne;have hM2:=Mem.less2 hM' q .dead (fun _ _ _=>⟨trivial,fun b hb=>(Ob.has_dead hb).elim⟩) ⟨fun h=>by simp at h,fun h=>by rw [aJ _ _ _ hidq.symm,aJ _ _ _ hkq.symm,hq] at h;cases h⟩;have hM3:=hM2.toDah (k:=id) (g:=g') (n:=n') (c:=c') (hs:=hs.map fun h=>(es.length+h.1,h.2)) (es:=es++fl) (e:=e) (by rw [aJ _ _ _ hidq,aE]) (by rw [aE,hv']) hi (fun h hmem=>by
  obtain ⟨h0,hm0,rfl⟩:=List.mem_map.1 hmem;obtain ⟨a,n,c,inf2,y,hyv2,hinf2,hXy,hcy⟩:=hholes h0 hm0;rw [hi] at hinf2;cases hinf2;rw [hyv] at hyv2;cases hyv2;refine ⟨y,hX' _ _ hXy,?_⟩;dsimp only at hcy ⊢;obtain ⟨b1,b2⟩:=hlt h0 hm0;have hp:h0.1*i.size+h0.2.1 < ys.length:=by rw [hyl];exact zs4 b1 b2
  have e1:ys[h0.1*i.size+h0.2.1]?=some y:=by
   rw [List.getElem?_eq_getElem hp];have:=hsub _ _ (List.getElem?_eq_getElem hp);rw [hcy] at this;exact this.symm
  have:=hnew _ _ e1;rw [show (es.length+h0.1)*i.size+h0.2.1=es.length*i.size+(h0.1*i.size+h0.2.1) by rw [Nat.add_mul];omega];exact this)
 refine ⟨.value v',v',w',G,_,u4 ho hrun,.inl rfl,Gle.refl G,hX',?_,?_⟩
 ·have e:upd (upd (upd (upd m k .dead) id (.dar (es++fl) e)) q .dead) id (.dah (es++fl) e (hs.map fun h=>(es.length+h.1,h.2)))=app m [(k,.dead),(q,.dead),(id,.dah (es++fl) e (hs.map fun h=>(es.length+h.1,h.2)))]:=by
   show _=upd (upd (upd m k .dead) q .dead) id _
   funext z;unfold upd;by_cases h1:z=id
   ·simp [h1]
   ·by_cases h2:z=q
    ·subst h2;simp [h1]
    ·simp [h1,h2]
  rw [<- e];exact hM3
 ·rw [V.Is];exact aE _ _ _
end
end Go.Abs
end
section
set_option linter.unusedVariables false
set_option linter.unusedSimpArgs false
namespace Go.Abs
section
variable {P:Program} {C:Cx} {m:Nat->Ob} {w:World} {G:Im} {X:Xm}
theorem Mem.aliasO (hM:Mem P C m w G X) {a b:Nat} {o:Ob} {v:Value} (hno:o≠.no) (ha:m a=o) (hX:X a=some v) (hb:m b=.no):Mem P C (upd (upd m a .dead) b (o)) w G (upd X b (some v))/\Xle X (upd X b (some v)):=by
 have hXb:X b=none:=(hM.free b).2 hb;have hab:a≠b:=fun h=>by rw [h,hb] at ha;exact hno ha.symm
 have hle:=jO (X:=X) (k:=b) (x:=v) hXb;have hmo:∀ k,k≠b->k≠a->upd (upd m a Ob.dead) b (o) k=m k:=fun k h1 h2=>by rw [aJ _ _ _ h1,aJ _ _ _ h2]
 have hma:upd (upd m a Ob.dead) b (o) a=.dead:=by rw [aJ _ _ _ hab,aE]
 have hmb:upd (upd m a Ob.dead) b (o) b=o:=aE _ _ _;refine ⟨⟨hM.gle,hM.gold,hM.gok,hM.keeps,?_,?_,?_,?_,?_,fun k y hk=>hle k y (hM.old k y hk)⟩,hle⟩
 ·intro k x hk;by_cases h1:k=b
  ·subst h1;rw [aE] at hk;cases hk;rw [hmb];have:=(hM.ob a v hX).mono (Gle.refl G) hle (fun _ _=>rfl) (fun _ _=>rfl);rw [ha] at this;exact this
  ·rw [aJ _ _ _ h1] at hk;by_cases h2:k=a
   ·subst h2;rw [hma];trivial
   ·rw [hmo k h1 h2];exact (hM.ob k x hk).mono (Gle.refl G) hle (fun _ _=>rfl) (fun _ _=>rfl)
 ·intro k;by_cases h1:k=b
  ·subst h1;rw [hmb,aE];simp [hno]
  ·rw [aJ _ _ _ h1];by_cases h2:k=a
   ·subst h2;rw [hma,hX];simp
   ·rw [hmo k h1 h2];exact hM.free k
 ·intro k k' x x' bl hk hk' B1 B2;have red:∀ k x,upd X b (some v) k=some x->(upd (upd m a Ob.dead) b (o) k).has w x bl->∃ k0,X k0=some x/\(m k0).has w x bl/\((k=b/\k0=a)∨(k≠b/\k≠a/\k0=k)):=by
   intro k x hk hbk;by_cases h1:k=b
   ·subst h1;rw [aE] at hk;cases hk;rw [hmb] at hbk;exact ⟨a,hX,by rw [ha];exact hbk,.inl ⟨rfl,rfl⟩⟩
   ·rw [aJ _ _ _ h1] at hk;by_cases h2:k=a
    ·subst h2;rw [hma] at hbk;exact (Ob.has_dead hbk).elim
    ·rw [hmo k h1 h2] at hbk;exact ⟨k,hk,hbk,.inr ⟨h1,h2,rfl⟩⟩
  obtain ⟨k1,q1,q2,q3⟩:=red k x hk B1;obtain ⟨k2,r1,r2,r3⟩:=red k' x' hk' B2;have:=hM.apart k1 k2 x x' bl q1 r1 q2 r2;rcases q3 with ⟨rfl,rfl⟩ | ⟨h1,h2,rfl⟩<;>rcases r3 with ⟨rfl,rfl⟩ | ⟨h3,h4,rfl⟩
  ·rfl
  ·exact absurd this.symm h4
  ·exact absurd this h2
  ·exact this
 ·intro k x bl hk hbk;by_cases h1:k=b
  ·subst h1;rw [aE] at hk;cases hk;rw [hmb] at hbk;exact hM.mine a v bl hX (by rw [ha];exact hbk)
  ·rw [aJ _ _ _ h1] at hk;by_cases h2:k=a
   ·subst h2;rw [hma] at hbk;exact (Ob.has_dead hbk).elim
   ·rw [hmo k h1 h2] at hbk;exact hM.mine k x bl hk hbk
 ·intro k x hk;by_cases h1:k=b
  ·subst h1;rw [aE] at hk;cases hk;exact hM.cell a v hX
  ·rw [aJ _ _ _ h1] at hk;exact hM.cell k x hk
end
section
variable {P:Program} {n:Nat} {ops:Array Oper} {K:List (Nat × Oper × Ev)->St->Prop} {r:List (Oper × Nat)} {acc:List (Nat × Oper × Ev)} {ix:Nat} {s:Nat->V} {m:Nat->Ob} {d:Tmp} {ty:TypeId} {pos:String} {after:Array Edge} {g:Option (Nat × Bool)}
theorem zr2 {α:Type} {l:List α} {y:α} {t e:TypeId} {p x:Operand} {q sz:Nat} {j:Int} {vs:List V} (row:α->List T) (fs:List T) (hs:List (Nat × Nat × Nat)) (hix:idx l j=some y) (hsz:kG P t=some sz) (he:kG P e=some sz)
  (hr:Run P n ops K r ((ix,⟨none,.store t p x,ty,pos,after,g⟩,⟨.jk,[(q,.dah ((l.map row).set j.toNat fs) e hs)],[q]⟩)::acc) ⟨s,upd m q (.dah ((l.map row).set j.toNat fs) e hs)⟩) (hg:aL n ops ⟨none,.store t p x,ty,pos,after,g⟩ ⟨s,m⟩=some true:=by rfl) (hp:ev n s p=.re q j.toNat sz 0:=by conv=>lhs;whnf) (hm:m q=.dar (l.map row) e:=by conv=>lhs;whnf) (hx:ev n s x=.ag vs:=by conv=>lhs;whnf) (hrel:zh8 vs fs:=by repeat (first | exact .nil | refine .t ?_ | refine .ar ?_ | refine .nl ?_)) (hfl:fs.length=sz:=by rfl) (hh:zbi vs j.toNat hs:=by repeat (first | exact trivial | refine ⟨⟨rfl,rfl⟩,?_⟩)):Run P n ops K ((⟨none,.store t p x,ty,pos,after,g⟩,ix)::r) acc ⟨s,m⟩ :=
 zF (e:=⟨.jk,[(q,.dah ((l.map row).set j.toNat fs) e hs)],[q]⟩) hg (fun s' m' q1 q2 C G X w ρ hM hE=>by
  have hp':=hE p;have hx':=hE x;rw [q1 p (by simp [Op.operands]),hp] at hp';rw [q1 x (by simp [Op.operands]),hx] at hx';exact zj4 hM (by rw [q2 q (by simp)];exact hm) he (by have:=gW hix;simp only [List.length_map];omega) hsz hrel hfl hh rfl hp' hx') hr
theorem s_bsD {t e:TypeId} {x:Operand} {by' sz:Nat} {vs:List V} (fs:List T) (hs:List (Nat × Nat × Nat)) (ha:zb2 P t=some (e,by',sz))
  (hr:Run P n ops K r ((ix,⟨some d,.buildSlice t 1 #[(0,x)],ty,pos,after,g⟩,⟨.ar d,[(d,.dah [fs] e hs)],[d]⟩)::acc) ⟨upd s d (.ar d),upd m d (.dah [fs] e hs)⟩) (hg:aL n ops ⟨some d,.buildSlice t 1 #[(0,x)],ty,pos,after,g⟩ ⟨s,m⟩=some true:=by rfl) (hx:ev n s x=.ag vs:=by conv=>lhs;whnf) (h1:qE (m d)=true:=by rfl) (hsm:sz<=16777216:=by decide) (hrel:zh8 vs fs:=by repeat (first | exact .nil | refine .t ?_ | refine .ar ?_ | refine .nl ?_)) (hfl:fs.length=sz:=by rfl) (hh:zbi vs 0 hs:=by repeat (first | exact trivial | refine ⟨⟨rfl,rfl⟩,?_⟩)):Run P n ops K ((⟨some d,.buildSlice t 1 #[(0,x)],ty,pos,after,g⟩,ix)::r) acc ⟨s,m⟩ :=
 zF (e:=⟨.ar d,[(d,.dah [fs] e hs)],[d]⟩) hg (fun s' m' q1 q2 C G X w ρ hM hE=>by
  have hx':=hE x;rw [q1 x (by simp [Op.operands]),hx] at hx';exact zkf hM (by rw [q2 d (by simp)];exact i8 h1) ha hsm hrel hfl hh rfl hx') hr
theorem s_apH {α:Type} {l:List α} {t e:TypeId} {x y:Operand} {by' sz k q:Nat} {fs:List T} {hs:List (Nat × Nat × Nat)} (row:α->List T) (hs2:List (Nat × Nat × Nat)) (hb:decide ((l.length+1)*by'<=140737488355328)=true) (ha:zb2 P t=some (e,by',sz))
  (hr:Run P n ops K r ((ix,⟨some d,.call { callee:=.builtin .append,args:=#[x,y],argTypes:=#[t,t] },ty,pos,after,g⟩,⟨.ar d,[(k,.dead),(q,.dead),(d,.dah (l.map row++[fs]) e hs2)],[k,q,d]⟩)::acc) ⟨upd s d (.ar d),upd (upd (upd m k .dead) q .dead) d (.dah (l.map row++[fs]) e hs2)⟩) (hg:aL n ops ⟨some d,.call { callee:=.builtin .append,args:=#[x,y],argTypes:=#[t,t] },ty,pos,after,g⟩ ⟨s,m⟩=some true:=by rfl) (hx:ev n s x=.ar k:=by conv=>lhs;whnf) (hy:ev n s y=.ar q:=by conv=>lhs;whnf) (hm:m k=.dar (l.map row) e:=by conv=>lhs;whnf) (hq:m q=.dah [fs] e hs:=by conv=>lhs;whnf) (h1:qE (m d)=true:=by rfl) (hno:fs.all T.noOw=true:=by rfl) (hhs:(hs.map fun h=>((l.map row).length+h.1,h.2))=hs2:=by simp) (hlt:hs.all (fun h=>decide (h.1 < 1)&&decide (h.2.1 < sz))=true:=by rfl):Run P n ops K ((⟨some d,.call { callee:=.builtin .append,args:=#[x,y],argTypes:=#[t,t] },ty,pos,after,g⟩,ix)::r) acc ⟨s,m⟩ :=
 zF (e:=⟨.ar d,[(k,.dead),(q,.dead),(d,.dah (l.map row++[fs]) e hs2)],[k,q,d]⟩) hg (fun s' m' q1 q2 C G X w ρ hM hE=>by
  have hx':=hE x;have hy':=hE y;rw [q1 x (by simp [Op.operands,Call.operands]),hx] at hx';rw [q1 y (by simp [Op.operands,Call.operands]),hy] at hy';have:=ziU hM (id:=d) (by rw [q2 d (by simp)];exact i8 h1) ha (by rw [q2 k (by simp)];exact hm) (by rw [q2 q (by simp)];exact hq) (by simp) (by simp only [List.all_cons,List.all_nil,hno,Bool.and_true]) (by rw [List.length_map];exact of_decide_eq_true hb) (fun h hh=>by
   have:=List.all_eq_true.1 hlt h hh;rw [Bool.and_eq_true,decide_eq_true_eq,decide_eq_true_eq] at this;exact this) (o:=⟨some d,.call { callee:=.builtin .append,args:=#[x,y],argTypes:=#[t,t] },ty,pos,after,g⟩) rfl hx' hy'
  rw [hhs] at this;exact this) hr
theorem zr5 {α:Type} {t e:TypeId} {x y:Operand} {by' sz:Nat} {k k':IntKind} {j:Int} {zs:List V} (row:α->List T) (z:α) (fs:List T) (hrow:fs.map T.nisO=row z) (hc:(decide (0<=j)&&decide (j.toNat*by'<=140737488355328))=true) (ha:zb2 P t=some (e,by',sz)) (hz:mG P e=some zs) (hnb:fs.all (T.nisB P)=true)
  (hr:Run P n ops K r ((ix,⟨some d,.makeSlice t x y,ty,pos,after,g⟩,⟨.ar d,[(d,.dar ((List.replicate j.toNat z).map row) e)],[d]⟩)::acc) ⟨upd s d (.ar d),upd m d (.dar ((List.replicate j.toNat z).map row) e)⟩) (hg:aL n ops ⟨some d,.makeSlice t x y,ty,pos,after,g⟩ ⟨s,m⟩=some true:=by rfl) (hx:ev n s x=.t (.sc (.int k j)):=by conv=>lhs;whnf) (hy:ev n s y=.t (.sc (.int k' j)):=by conv=>lhs;whnf) (h1:qE (m d)=true:=by rfl) (hrel:zos zs fs:=by repeat (first | exact .nil | refine .t ?_ | refine .nl ?_)) (hfl:fs.length=sz:=by rfl):Run P n ops K ((⟨some d,.makeSlice t x y,ty,pos,after,g⟩,ix)::r) acc ⟨s,m⟩ :=
 zF (e:=⟨.ar d,[(d,.dar ((List.replicate j.toNat z).map row) e)],[d]⟩) hg (fun s' m' q1 q2 C G X w ρ hM hE=>by
  have hx':=hE x;have hy':=hE y;rw [q1 x (by simp [Op.operands]),hx,V.Is,T.Is] at hx';rw [q1 y (by simp [Op.operands]),hy,V.Is,T.Is] at hy';rw [Bool.and_eq_true,decide_eq_true_eq,decide_eq_true_eq] at hc;obtain ⟨i,rfl⟩:=Int.eq_ofNat_of_zero_le hc.1;have:=zpU hM (id:=d) (by rw [q2 d (by simp)];exact i8 h1) ha hz hrel hfl hnb (n:=i) hc.2 (o:=⟨some d,.makeSlice t x y,ty,pos,after,g⟩) rfl hx' hy';rw [List.map_replicate,hrow,<- List.map_replicate] at this;exact this) hr
theorem zoH {α β:Type} {l:List α} {y:α} {t e e2:TypeId} {x:Operand} {q sz off:Nat} {j:Int} (row:α->List T) (rowL:β->List T) (l2:List β) (hix:idx l j=some y) (ha:n9 P t=some false) (he:kG P e=some sz)
  (hr:Run P n ops K r ((ix,⟨some d,.load t x,ty,pos,after,g⟩,⟨.ar d,[(q,.dah ((l.map row).set j.toNat ((row y).set off .any)) e [(j.toNat,off,d)]),(d,.dar (l2.map rowL) e2)],[q,d]⟩)::acc) ⟨upd s d (.ar d),upd (upd m q (.dah ((l.map row).set j.toNat ((row y).set off .any)) e [(j.toNat,off,d)])) d (.dar (l2.map rowL) e2)⟩) (hg:aL n ops ⟨some d,.load t x,ty,pos,after,g⟩ ⟨s,m⟩=some true:=by rfl) (hx:ev n s x=.re q j.toNat sz off:=by conv=>lhs;whnf) (hm:m q=.dar (l.map row) e:=by conv=>lhs;whnf) (hw:(row y)[off]?=some (.ow e2 (l2.map rowL)):=by rfl) (h1:qE (m d)=true:=by rfl):Run P n ops K ((⟨some d,.load t x,ty,pos,after,g⟩,ix)::r) acc ⟨s,m⟩ :=
 zF (e:=⟨.ar d,[(q,.dah ((l.map row).set j.toNat ((row y).set off .any)) e [(j.toNat,off,d)]),(d,.dar (l2.map rowL) e2)],[q,d]⟩) hg (fun s' m' q1 q2 C G X w ρ hM hE=>by
  have hx':=hE x;rw [q1 x (by simp [Op.operands]),hx] at hx';have h0:=gW hix;have e1:(l.map row)[j.toNat]?=some (row y):=by rw [List.getElem?_map,h0.2.2];rfl
  exact zdZ hM (d:=d) (by rw [q2 q (by simp)];exact hm) he e1 hw (by rw [q2 d (by simp)];exact i8 h1) ha (o:=⟨some d,.load t x,ty,pos,after,g⟩) rfl hx') hr
theorem zmC {α β:Type} {l:List α} {y:α} {t e e2:TypeId} {x:Operand} {q sz off:Nat} {j:Int} (row:α->List T) (rowL:β->List T) (l2:List β) (hpl:∀ y,(rowL y).all T.plain=true) (hix:idx l j=some y) (ha:n9 P t=some false) (he:kG P e=some sz)
  (hr:Run P n ops K r ((ix,⟨some d,.load t x,ty,pos,after,g⟩,⟨.ar d,[(q,.dah ((l.map row).set j.toNat ((row y).set off .any)) e [(j.toNat,off,d)]),(d,.arr (l2.map rowL) e2 true)],[q,d]⟩)::acc) ⟨upd s d (.ar d),upd (upd m q (.dah ((l.map row).set j.toNat ((row y).set off .any)) e [(j.toNat,off,d)])) d (.arr (l2.map rowL) e2 true)⟩) (hg:aL n ops ⟨some d,.load t x,ty,pos,after,g⟩ ⟨s,m⟩=some true:=by rfl) (hx:ev n s x=.re q j.toNat sz off:=by conv=>lhs;whnf) (hm:m q=.dar (l.map row) e:=by conv=>lhs;whnf) (hw:(row y)[off]?=some (.ow e2 (l2.map rowL)):=by rfl) (h1:qE (m d)=true:=by rfl):Run P n ops K ((⟨some d,.load t x,ty,pos,after,g⟩,ix)::r) acc ⟨s,m⟩ :=
 zF (e:=⟨.ar d,[(q,.dah ((l.map row).set j.toNat ((row y).set off .any)) e [(j.toNat,off,d)]),(d,.arr (l2.map rowL) e2 true)],[q,d]⟩) hg (fun s' m' q1 q2 C G X w ρ hM hE=>by
  have hx':=hE x;rw [q1 x (by simp [Op.operands]),hx] at hx';have h0:=gW hix;have e1:(l.map row)[j.toNat]?=some (row y):=by rw [List.getElem?_map,h0.2.2];rfl
  obtain ⟨a1,a2,a3,a4,a5,a6,a7,a8,a9,a10,a11⟩:=zdZ hM (d:=d) (by rw [q2 q (by simp)];exact hm) he e1 hw (by rw [q2 d (by simp)];exact i8 h1) ha (o:=⟨some d,.load t x,ty,pos,after,g⟩) rfl hx';have b:=Mem.ofDar a10 (k:=d) (by show upd _ _ _ _=_;rw [aE]) (zhz hpl);refine ⟨a1,a2,a3,a4,a5,a6,a7,a8,a9,?_,a11⟩;have e3:upd (app m' [(q,.dah ((l.map row).set j.toNat ((row y).set off .any)) e [(j.toNat,off,d)]),(d,.dar (l2.map rowL) e2)]) d (.arr (l2.map rowL) e2 true)=app m' [(q,.dah ((l.map row).set j.toNat ((row y).set off .any)) e [(j.toNat,off,d)]),(d,.arr (l2.map rowL) e2 true)]:=za0 _ _ _ _;rw [e3] at b;exact b) hr
theorem zgZ {α:Type} {l:List α} {y:α} {t e:TypeId} {p x:Operand} {q sz off:Nat} {j:Int} {t0 u:T} (row:α->List T) (y2:α) (hix:idx l j=some y) (hrow2:row y2=(row y).set off u) (hs:kG P t=some 1) (he:kG P e=some sz)
  (hr:Run P n ops K r ((ix,⟨none,.store t p x,ty,pos,after,g⟩,⟨.jk,[(q,.dar ((l.set j.toNat y2).map row) e)],[q]⟩)::acc) ⟨s,upd m q (.dar ((l.set j.toNat y2).map row) e)⟩) (hg:aL n ops ⟨none,.store t p x,ty,pos,after,g⟩ ⟨s,m⟩=some true:=by rfl) (hp:ev n s p=.re q j.toNat sz off:=by conv=>lhs;whnf) (hm:m q=.dar (l.map row) e:=by conv=>lhs;whnf) (hx:ev n s x=.t u:=by conv=>lhs;whnf) (hw:(row y)[off]?=some t0:=by rfl) (hno:t0.noOw=true:=by rfl):Run P n ops K ((⟨none,.store t p x,ty,pos,after,g⟩,ix)::r) acc ⟨s,m⟩ :=
 zF (e:=⟨.jk,[(q,.dar ((l.set j.toNat y2).map row) e)],[q]⟩) hg (fun s' m' q1 q2 C G X w ρ hM hE=>by
  have hp':=hE p;have hx':=hE x;rw [q1 p (by simp [Op.operands]),hp] at hp';rw [q1 x (by simp [Op.operands]),hx] at hx';have h0:=gW hix;have e1:(l.map row)[j.toNat]?=some (row y):=by rw [List.getElem?_map,h0.2.2];rfl
  have:=ziQ hM (u:=u) (by rw [q2 q (by simp)];exact hm) he e1 hw (fun w x=>zja t0 x hno) hs (o:=⟨none,.store t p x,ty,pos,after,g⟩) rfl hp' hx';rw [<- hrow2,<- List.map_set] at this;exact this) hr
end
section
variable {P:Program} {C:Cx} {n:Nat} {c:Code} {Q:Exit->St->Prop} {s:Nat->V} {m:Nat->Ob}
theorem zkD {q k i off:Nat} {es:List (List T)} {e e':TypeId} {hs:List (Nat × Nat × Nat)} {fs:List T} {es':List (List T)} (hm:m q=.dah es e ((i,off,k)::hs)) (hd:m k=.dar es' e') (hi:es[i]?=some fs) (hj:fs[off]?=some .any) :
  zqo P C n ⟨s,m⟩ ⟨s,upd (upd m k .dead) q (.dah (es.set i (fs.set off (.ow e' es'))) e hs)⟩:=by
 rintro x w ⟨G,X,hM,hd',hsz,ht⟩;replace hM:Mem P C m w G X:=hM;exact ⟨G,X,Mem.joinHole hM hm hd hi hj,hd',hsz,ht⟩
theorem zi5 {q k i off:Nat} {es:List (List T)} {e e':TypeId} {hs:List (Nat × Nat × Nat)} {fs:List T} {es':List (List T)} (hm:m q=.dah es e ((i,off,k)::hs)) (hd:m k=.arr es' e' true) (hi:es[i]?=some fs) (hj:fs[off]?=some .any) :
  zqo P C n ⟨s,m⟩ ⟨s,upd (upd m k .dead) q (.dah (es.set i (fs.set off (.ow e' es'))) e hs)⟩:=by
 rintro x w ⟨G,X,hM,hd',hsz,ht⟩;replace hM:Mem P C m w G X:=hM;have hkq:q≠k:=fun h=>by rw [h,hd] at hm;cases hm
 have h1:=Mem.joinHole (hM.toDar hd) (by rw [aJ _ _ _ hkq];exact hm) (aE _ _ _) hi hj;rw [za0] at h1;exact ⟨G,X,h1,hd',hsz,ht⟩
theorem zeF {α:Type} (q k:Nat) {row:α->List T} {l:List α} {y:α} {j:Int} {off:Nat} {e e2:TypeId} {fs:List T} (fs2:List T) {es2:List (List T)} {hs:List (Nat × Nat × Nat)} (hix:idx l j=some y) (h:AWP P C n c Q ⟨s,upd (upd m k .dead) q (.dah ((l.map row).set j.toNat fs2) e hs)⟩)
  (hm:m q=.dah ((l.map row).set j.toNat fs) e ((j.toNat,off,k)::hs):=by conv=>lhs;whnf) (hd:m k=.dar es2 e2:=by conv=>lhs;whnf) (hj:fs[off]?=some .any:=by rfl) (hf:fs.set off (.ow e2 es2)=fs2:=by rfl):AWP P C n c Q ⟨s,m⟩:=by
 have h0:=gW hix;have:=zkD (P:=P) (C:=C) (n:=n) (s:=s) hm hd (by rw [List.getElem?_set_self];simp only [List.length_map];omega) hj;rw [List.set_set,hf] at this;exact lX this h
theorem zsK {α:Type} (q k:Nat) {row:α->List T} {l:List α} {off:Nat} {e e2:TypeId} {fs:List T} (fs2:List T) {es2:List (List T)} {hs:List (Nat × Nat × Nat)} (h:AWP P C n c Q ⟨s,upd (upd m k .dead) q (.dah (l.map row++[fs2]) e hs)⟩)
  (hm:m q=.dah (l.map row++[fs]) e ((l.length,off,k)::hs):=by conv=>lhs;whnf) (hd:m k=.dar es2 e2:=by conv=>lhs;whnf) (hj:fs[off]?=some .any:=by rfl) (hf:fs.set off (.ow e2 es2)=fs2:=by rfl):AWP P C n c Q ⟨s,m⟩:=by
 have:=zkD (P:=P) (C:=C) (n:=n) (s:=s) hm hd (fs:=fs) (by rw [List.getElem?_append_right (by simp)];simp) hj;have e1:(l.map row++[fs]).set l.length (fs.set off (.ow e2 es2))=l.map row++[fs2]:=by
  rw [hf,List.set_append_right _ _ (by simp)];simp
 rw [e1] at this;exact lX this h
theorem zbg {α:Type} (q k:Nat) {row:α->List T} {l:List α} {y:α} {j:Int} {off:Nat} {e e2:TypeId} {fs:List T} (fs2:List T) {es2:List (List T)} {hs:List (Nat × Nat × Nat)} (hix:idx l j=some y) (h:AWP P C n c Q ⟨s,upd (upd m k .dead) q (.dah ((l.map row).set j.toNat fs2) e hs)⟩)
  (hm:m q=.dah ((l.map row).set j.toNat fs) e ((j.toNat,off,k)::hs):=by conv=>lhs;whnf) (hd:m k=.arr es2 e2 true:=by conv=>lhs;whnf) (hj:fs[off]?=some .any:=by rfl) (hf:fs.set off (.ow e2 es2)=fs2:=by rfl):AWP P C n c Q ⟨s,m⟩:=by
 have h0:=gW hix;have:=zi5 (P:=P) (C:=C) (n:=n) (s:=s) hm hd (by rw [List.getElem?_set_self];simp only [List.length_map];omega) hj;rw [List.set_set,hf] at this;exact lX this h
theorem zsL {α:Type} (q k:Nat) {row:α->List T} {l:List α} {off:Nat} {e e2:TypeId} {fs:List T} (fs2:List T) {es2:List (List T)} {hs:List (Nat × Nat × Nat)} (h:AWP P C n c Q ⟨s,upd (upd m k .dead) q (.dah (l.map row++[fs2]) e hs)⟩)
  (hm:m q=.dah (l.map row++[fs]) e ((l.length,off,k)::hs):=by conv=>lhs;whnf) (hd:m k=.arr es2 e2 true:=by conv=>lhs;whnf) (hj:fs[off]?=some .any:=by rfl) (hf:fs.set off (.ow e2 es2)=fs2:=by rfl):AWP P C n c Q ⟨s,m⟩:=by
 have:=zi5 (P:=P) (C:=C) (n:=n) (s:=s) hm hd (fs:=fs) (by rw [List.getElem?_append_right (by simp)];simp) hj;have e1:(l.map row++[fs]).set l.length (fs.set off (.ow e2 es2))=l.map row++[fs2]:=by
  rw [hf,List.set_append_right _ _ (by simp)];simp
 rw [e1] at this;exact lX this h
theorem yV {α:Type} (q:Nat) {row:α->List T} {l:List α} {j:Int} {e:TypeId} {fs:List T} (y2:α) (hrow:row y2=fs) (h:AWP P C n c Q ⟨s,upd m q (.dar ((l.set j.toNat y2).map row) e)⟩)
  (hm:m q=.dah ((l.map row).set j.toNat fs) e []:=by conv=>lhs;whnf):AWP P C n c Q ⟨s,m⟩:=by
 refine lX ?_ h;rintro x w ⟨G,X,hM,hd',hsz,ht⟩;replace hM:Mem P C m w G X:=hM;have h1:=hM.noHole hm;rw [<- hrow,<- List.map_set] at h1;exact ⟨G,X,h1,hd',hsz,ht⟩
theorem zsI {α:Type} (q:Nat) {row:α->List T} {l:List α} {e:TypeId} {fs:List T} (y2:α) (hrow:row y2=fs) (h:AWP P C n c Q ⟨s,upd m q (.dar ((l++[y2]).map row) e)⟩)
  (hm:m q=.dah (l.map row++[fs]) e []:=by conv=>lhs;whnf):AWP P C n c Q ⟨s,m⟩:=by
 refine lX ?_ h;rintro x w ⟨G,X,hM,hd',hsz,ht⟩;replace hM:Mem P C m w G X:=hM;have h1:=hM.noHole hm;rw [<- hrow,show l.map row++[row y2]=(l++[y2]).map row by simp] at h1;exact ⟨G,X,h1,hd',hsz,ht⟩
theorem z6 {o:Ob} {cs:List V} (k a b:Nat) (ds:List V) (h:AWP P C n c Q ⟨s,upd (upd (upd m a .dead) b o) k (.box ds)⟩)
  (hk:m k=.box cs:=by conv=>lhs;whnf) (ha:m a=o:=by conv=>lhs;whnf) (hka:k≠a:=by decide) (hb:qE (m b)=true:=by rfl) (hr:zow (.ar a) (.ar b) cs ds:=by repeat (first | exact zjY | refine zjZ ?_ | refine zhM ?_)) (hno:o≠.no:=by simp):AWP P C n c Q ⟨s,m⟩:=by
 refine lX ?_ h;rintro x w ⟨G,X,hM,hd,hsz,ht⟩;replace hM:Mem P C m w G X:=hM;cases hX:X a with
 | none=>rw [(hM.free a).1 hX] at ha;exact absurd ha.symm hno
 | some v =>
   have hb':=i8 hb;obtain ⟨hM',hle⟩:=hM.aliasO hno ha hX hb';have hkb:k≠b:=fun h=>by rw [h,hb'] at hk;cases hk
   refine ⟨G,_,hM'.box_re (k:=k) (cs:=cs) (by rw [aJ _ _ _ hkb,aJ _ _ _ hka];exact hk) (fun y hy=>?_) hr,hd,hsz,fun t htn=>V.Is.mono (Gle.refl G) hle _ _ (ht t htn)⟩;rw [V.Is] at hy ⊢;have hab:a≠b:=fun h=>by rw [h,hb'] at ha;exact hno ha.symm
   rw [aJ _ _ _ hab,hX] at hy;rw [aE];exact hy
end
theorem zss (L L2:List (Nat × Ob)) (hL:L.all (fun p=>!qE p.2)=true) (k:Nat):cR (L++L2) k=(cR L k).or (cR L2 k):=by
 induction L with
 | nil=>rfl
 | cons p L ih =>
   obtain ⟨i,o⟩:=p;rw [List.all_cons,Bool.and_eq_true] at hL;rw [List.cons_append,eX,eX];by_cases hk:k=i
   ·rw [if_pos hk,if_pos hk];refine (Ob.or_of (fun h=>?_) _).symm;have:=hL.1;rw [h] at this;cases this
   ·rw [if_neg hk,if_neg hk];exact ih hL.2
theorem zjS (f:Ob->Bool) (hn:f .no=true):∀ (L:List (Nat × Ob)),L.all (fun p=>f p.2)=true->∀ k,f (cR L k)=true
 | [],_,k=>hn
 | (i,o)::L,h,k=>by
   rw [List.all_cons,Bool.and_eq_true] at h;rw [eX];split
   ·exact h.1
   ·exact zjS f hn L h.2 k
theorem zjR {k:Nat}:∀ {L:List (Nat × Ob)},cR L k≠.no->k∈L.map (·.1)
 | [],h=>absurd rfl h
 | (i,o)::L,h=>by
   rw [eX] at h;by_cases hk:k=i
   ·simp [hk]
   ·rw [if_neg hk] at h;simp [zjR h]
theorem zU {P:Program} {f:FuncId} {args cargs:List V} {r:V} {res:Nat->Ob} (L L2:List (Nat × Ob)) (hAC:AC P f cargs aZ r res) (hres:res=cR L2) (hc:V.lendL (cR L) args=cargs) (hl:L.all (fun p=>p.2.lends)=true) (hnn:L.all (fun p=>!qE p.2)=true) (ha:V.lendsL args=true)
  (hr:r.flat=true) (hf:L2.all (fun p=>p.2.flat)=true) (hdis:(L2.map (·.1)).all (fun k=>!(L.map (·.1)).elem k)=true):AC P f args (cR L) r (cR (L++L2)):=by
 subst hres;refine AC.lend hAC hc (zjS _ rfl L hl) ha hr (zjS _ rfl L2 hf) (fun k hk=>?_) (zss L L2 hnn);refine Classical.byContradiction fun hk2=>?_
 have h1:=zjR hk;have h2:=List.all_eq_true.1 hdis k (zjR hk2);simp only [Bool.not_eq_true',List.elem_eq_mem,decide_eq_false_iff_not] at h2;exact h2 h1
end Go.Abs
end
section
set_option linter.unusedVariables false
set_option linter.unusedSimpArgs false
namespace Go.Abs
theorem yU:∀ l:List ByteArray,T.flatR (l.map rS)=true
 | []=>rfl
 | x::xs=>by rw [List.map_cons,T.flatR,yU xs];rfl
theorem zgN (y:Int):(rI y).all T.plain=true:=rfl
theorem zY {α:Type} {row rowD:α->List T} (h:∀ x,T.lendC (rowD x)=row x):∀ l:List α,T.lendR (l.map rowD)=l.map row
 | []=>rfl
 | x::xs=>by rw [List.map_cons,T.lendR,h x,zY h xs];rfl
theorem zZ {α:Type} {rowD:α->List T} (h:∀ x,T.flatC (rowD x)=true):∀ l:List α,T.flatR (l.map rowD)=true
 | []=>rfl
 | x::xs=>by rw [List.map_cons,T.flatR,h x,zZ h xs];rfl
theorem aB.rowDE (eI eF:Nat) (x:aB):x.rowD eI eF=[ti x.kind,zdq x.name,ti x.n,.ow eI (x.scopes.map rI),.ow eF (x.kids.map (aB.rowD eI eF))]:=aB.rowD_eq eI eF x
theorem aB.lendM (eI eF:Nat) (l:List aB):T.lendR (l.map (aB.rowD eI eF))=l.map aB.row:=zY (aB.lend eI eF) l
theorem aB.flatM (eI eF:Nat) (l:List aB):T.flatR (l.map (aB.rowD eI eF))=true:=zZ (aB.flat eI eF) l
mutual
theorem kH.flat (eI eF eC:Nat):∀ x:kH,T.flatC (x.rowD eI eF eC)=true
 | .mk a b c d e f g=>by
   have h:=kH.flats eI eF eC g;rw [kH.rowD,qN,qN,aB.flat];simp only [T.flatC,T.flat,ti,zdq,uU,h,Bool.and_self]
theorem kH.flats (eI eF eC:Nat):∀ l:List kH,T.flatR (kH.rowsD eI eF eC l)=true
 | []=>rfl
 | x::xs=>by rw [kH.rowsD,T.flatR,kH.flat eI eF eC x,kH.flats eI eF eC xs];rfl
end
theorem kH.lendM (eI eF eC:Nat) (l:List kH):T.lendR (l.map (kH.rowD eI eF eC))=l.map kH.row:=zY (kH.lend eI eF eC) l
theorem kH.flatM (eI eF eC:Nat) (l:List kH):T.flatR (l.map (kH.rowD eI eF eC))=true:=zZ (kH.flat eI eF eC) l
mutual
theorem Hit.flat (eI eF eH:Nat):∀ x:Hit,T.flatC (x.rowD eI eF eH)=true
 | .mk a b c d=>by
   have h:=Hit.flats eI eF eH d;rw [Hit.rowD,qN,qN,qN,aB.flat,aB.flat];simp only [T.flatC,T.flat,ti,zdq,h,Bool.and_self]
theorem Hit.flats (eI eF eH:Nat):∀ l:List Hit,T.flatR (Hit.rowsD eI eF eH l)=true
 | []=>rfl
 | x::xs=>by rw [Hit.rowsD,T.flatR,Hit.flat eI eF eH x,Hit.flats eI eF eH xs];rfl
end
theorem Hit.lendM (eI eF eH:Nat) (l:List Hit):T.lendR (l.map (Hit.rowD eI eF eH))=l.map Hit.row:=zY (Hit.lend eI eF eH) l
theorem Hit.flatM (eI eF eH:Nat) (l:List Hit):T.flatR (l.map (Hit.rowD eI eF eH))=true:=zZ (Hit.flat eI eF eH) l
theorem aI.rowDE (eI eF:Nat) (x:aI):x.rowD eI eF=[ti x.pattern.kind,zdq x.pattern.name,ti x.pattern.n,.ow eI (x.pattern.scopes.map rI),.ow eF (x.pattern.kids.map (aB.rowD eI eF)),ti x.template.kind,zdq x.template.name,ti x.template.n,.ow eI (x.template.scopes.map rI),.ow eF (x.template.kids.map (aB.rowD eI eF))]:=by
 obtain ⟨a,b⟩:=x;rw [aI.rowD,aB.rowD_eq,aB.rowD_eq];rfl
theorem aI.flat (eI eF:Nat) (x:aI):T.flatC (x.rowD eI eF)=true:=by rw [aI.rowD,qN,aB.flat,aB.flat];rfl
theorem aI.lendM (eI eF:Nat) (l:List aI):T.lendR (l.map (aI.rowD eI eF))=l.map aI.row:=zY (aI.lend eI eF) l
theorem aI.flatM (eI eF:Nat) (l:List aI):T.flatR (l.map (aI.rowD eI eF))=true:=zZ (aI.flat eI eF) l
def aH.rowD (eI:Nat) (x:aH):List T:=[zdq x.name,.ow eI (x.scopes.map rI),ti x.id]
theorem aH.rowDE (eI:Nat) (x:aH):x.rowD eI=[zdq x.name,.ow eI (x.scopes.map rI),ti x.id]:=rfl
theorem aH.lend (eI:Nat) (x:aH):T.lendC (x.rowD eI)=x.row:=by
 rw [aH.row_eq,aH.rowD];simp only [T.lendC,T.lend,ti,zdq,zjG]
theorem aH.flat (eI:Nat) (x:aH):T.flatC (x.rowD eI)=true:=by rw [aH.rowD];simp only [T.flatC,T.flat,ti,zdq,uU,Bool.and_self]
theorem aH.lendM (eI:Nat) (l:List aH):T.lendR (l.map (aH.rowD eI))=l.map aH.row:=zY (aH.lend eI) l
theorem aH.flatM (eI:Nat) (l:List aH):T.flatR (l.map (aH.rowD eI))=true:=zZ (aH.flat eI) l
def eD.rowD (eI eF eR:Nat) (x:eD):List T:=[ti x.id,.ow eF (x.literals.map (aB.rowD eI eF)),.ow eR (x.rules.map (aI.rowD eI eF))]
theorem eD.lend (eI eF eR:Nat) (x:eD):T.lendC (x.rowD eI eF eR)=x.row:=by
 rw [eD.row_eq,eD.rowD];simp only [T.lendC,T.lend,ti,aB.lendM,aI.lendM]
theorem eD.flat (eI eF eR:Nat) (x:eD):T.flatC (x.rowD eI eF eR)=true:=by rw [eD.rowD];simp only [T.flatC,T.flat,ti,aB.flatM,aI.flatM,Bool.and_self]
theorem eD.lendM (eI eF eR:Nat) (l:List eD):T.lendR (l.map (eD.rowD eI eF eR))=l.map eD.row:=zY (eD.lend eI eF eR) l
theorem eD.flatM (eI eF eR:Nat) (l:List eD):T.flatR (l.map (eD.rowD eI eF eR))=true:=zZ (eD.flat eI eF eR) l
end Go.Abs
end
section
set_option linter.unusedVariables false
set_option linter.unusedSimpArgs false
namespace Go.Abs
section
variable {P:Program} {n:Nat} {ops:Array Oper} {K:List (Nat × Oper × Ev)->St->Prop} {r:List (Oper × Nat)} {acc:List (Nat × Oper × Ev)} {ix:Nat} {s:Nat->V} {m:Nat->Ob} {d:Tmp} {ty:TypeId} {pos:String} {after:Array Edge} {g:Option (Nat × Bool)}
end
section
variable {P:Program} {C:Cx} {n:Nat} {c:Code} {Q:Exit->St->Prop} {s:Nat->V} {m:Nat->Ob}
end
section
variable {P:Program} {C:Cx} {n:Nat} {Q:Exit->St->Prop} {s:Nat->V} {m:Nat->Ob}
theorem mE {β:Type} {c:Code} (asg och gar N:List Nat) (hNC:∀ k,N.elem k=true->C.X0 k=none) (sl:Nat × β->List (Nat × V)) (ob:Nat × β->List (Nat × Ob)) (Inv:Nat × β->Prop) (a0:Nat × β) (h0:Inv a0)
  (round:∀ a,Inv a->AWP P C n c (zha asg och gar N (fun a=>a.1) sl ob Inv s m a Q) ⟨frame asg (zz (sl a)) s,frame och (cR (ob a)) m⟩)
  (hga:gar.all (fun k=>qE (m k))=true:=by rfl) (hdis:och.all (fun k=>!gar.elem k)=true:=by rfl) (hoc:∀ a,(ob a).map (·.1)=och:=by intro _;rfl)
  (hs:zrY s (sl a0):=by repeat (first | exact znd | refine zlb (by conv=>lhs;whnf) (by rfl) ?_)) (ho:zqp m (ob a0):=by repeat (first | exact zgS | refine zdR (by conv=>lhs;whnf) (by rfl) ?_))
  (hNs:zaY N asg s:=by repeat (first | exact zmk rfl | refine zn7 rfl ?_ | refine zlx rfl ?_)) (hNm:zaZ N och m:=by repeat (first | exact zpR | exact zeJ rfl | refine zn8 rfl ?_ | refine zly rfl ?_)):AWP P C n (.loop c) Q ⟨s,m⟩ :=
 zju asg och gar N (fun a=>a.1) sl ob Inv a0 h0 hga hdis hoc hs ho hNC hNs hNm round
end
end Go.Abs
end
