/- A part of the proof: what the functions that the law calls answer, as pure values. -/
import Derived.KernelRfl
import Derived.Test.YtcebadpiebamdaaGreatKa014c68aa01c
set_option linter.unusedSimpArgs false
set_option linter.unusedVariables false
section
set_option linter.unusedSimpArgs false
set_option linter.unusedVariables false
namespace Go.Abs
section
variable {P:Program} {n:Nat}
theorem AC_i {f:FuncId} {fn:Func} {c:Code} {N:Nat} (rs:List V) (hf:P.funcs[f]?=some fn) (hb:fn.body=some c) (hn:fn.ntmps=N) {args:List V} {os os':Nat→Ob}
  (h:∀ C:Cx,(∀ k,C.X0 k≠none→os k≠.no)→AWP P C N c (Fin P N fn rs os') ⟨fun t=>args.getD t .jk,os⟩)
  (hname:(fn.name == "runtime.NumGoroutine")=false:=by kernel_rfl) (hlen:args.length≤N:=by simp) (hkeep:∀ k,os k≠.no→os' k≠.no:=by first | (simp [noOb];done) | exact keep_all rfl):AC P f args os (one1 rs) os':=by
 subst hn
 exact AC_intro hf hb hname hlen hkeep h
theorem zk {fn:Func} {rr:Array ResultVar} {rs vs:List V} {s':Nat→V} {m' m1:Nat→Ob} {u:List (Nat × Ob)} (L':List (Nat × Ob)) (ks:List Nat) (hrr:fn.results=rr)
  (h1:zhg P n ⟨s',m'⟩ rr.toList=some vs:=by first | exact (zfb (by conv=>lhs;whnf) zfp) | exact (zfb (by conv=>lhs;whnf) (zfb (by conv=>lhs;whnf) zfp)) | exact (zfb (by conv=>lhs;whnf) (zfb (by conv=>lhs;whnf) (zfb (by conv=>lhs;whnf) zfp))) | exact (zfb (by conv=>lhs;whnf) (zfb (by conv=>lhs;whnf) (zfb (by conv=>lhs;whnf) (zfb (by conv=>lhs;whnf) zfp)))) | exact (zfb (by conv=>lhs;whnf) (zfb (by conv=>lhs;whnf) (zfb (by conv=>lhs;whnf) (zfb (by conv=>lhs;whnf) (zfb (by conv=>lhs;whnf) zfp))))) | exact zfp)
  (hu:fzU m' ks=u:=by repeat (first | exact zgx | (apply zfD;focus ((conv=>lhs;whnf);done)) | (apply zfC;focus ((conv=>lhs;whnf);done))))
  (hm1:app m' u=m1:=by simp only [app];rfl)
  (h2:GiveL m1 ks vs rs:=by repeat (first | exact giveL_nil | refine giveL_cons (by first | exact .inl rfl | exact give_T rfl rfl | exact give_Ts rfl rfl rfl) ?_))
  (ho:HasO m1 L':=by repeat (first | exact zbp | refine zQ (by conv=>lhs;whnf) (by rfl) ?_))
  (hi:L'.all (fun p=>p.2.ids.all (fun j=>(L'.map (·.1)).elem j))=true:=by rfl)
  (hr:(V.idsL rs).all (fun k=>(L'.map (·.1)).elem k)=true:=by rfl):Ends P n fn rs (objs L') ⟨s',m'⟩:=by
 subst hrr
 exact zgl L' ks h1 hu hm1 h2 ho hi hr
end
section
variable {P:Program} {C:Cx} {n:Nat} {Q:Exit→St→Prop} {s:Nat→V} {m:Nat→Ob}
theorem zaE {β:Type} {c:Code} (asg och gar:List Nat) (sl:Nat × β→List (Nat × V)) (ob:Nat × β→List (Nat × Ob)) (Inv:Nat × β→Prop) (a0:Nat × β) (h0:Inv a0)
  (round:∀ a,Inv a→AWP P C n c (Round2 asg och gar [] (fun a=>a.1) sl ob Inv s m a Q) ⟨frame asg (slots (sl a)) s,frame och (objs (ob a)) m⟩)
  (hga:gar.all (fun k=>isNo (m k))=true:=by rfl) (hdis:och.all (fun k=>!gar.elem k)=true:=by rfl) (hoc:∀ a,(ob a).map (·.1)=och:=by intro _;rfl)
  (hs:HasF s (sl a0):=by repeat (first | exact zbP | refine zZ (by conv=>lhs;whnf) (by rfl) ?_)) (ho:HasO m (ob a0):=by repeat (first | exact zbp | refine zQ (by conv=>lhs;whnf) (by rfl) ?_)):AWP P C n (.loop c) Q ⟨s,m⟩ :=
 zap asg och gar [] (fun a=>a.1) sl ob Inv a0 h0 hga hdis hoc hs ho (fun _ h=>by cases h) freshS_nil freshM_nil round
theorem zdr {α:Type} {x y:Code} (asg och gar:List Nat) (sl:α→List (Nat × V)) (ob:α→List (Nat × Ob)) (Inv:α→Prop)
  (hA:AWP P C n x (JoinP asg och gar [] sl ob Inv s m Q) ⟨s,m⟩) (hJ:∀ a,Inv a→AWP P C n y Q ⟨frame asg (slots (sl a)) s,frame och (objs (ob a)) m⟩)
  (hga:gar.all (fun k=>isNo (m k))=true:=by rfl) (hoc:∀ a,(ob a).map (·.1)=och:=by intro _;rfl):AWP P C n (.seq x y) Q ⟨s,m⟩ :=
 awp_seqJ asg och gar [] sl ob Inv hga hoc (fun _ h=>by cases h) freshS_nil freshM_nil hA hJ
section
variable {α:Type} {asg och gar N:List Nat} {s0:Nat→V} {m0:Nat→Ob}
theorem s_jn {sl:α→List (Nat × V)} {ob:α→List (Nat × Ob)} {Inv:α→Prop} (a':α) (h1:Inv a') (h5:HasR s och gar (qOf []) (sl a'):=by repeat (first | exact trivial | refine hasR_cons (by conv=>lhs;whnf) (by rfl) rfl ?_)) (h6:HasQ m och gar (qOf []) (ob a'):=by repeat (first | exact trivial | refine hasQ_cons (by conv=>lhs;whnf) (by rfl) rfl ?_))
  (h3:Off asg s s0:=by repeat (first | exact zf0 _ _ _ | exact zgH _ _ | refine off_upd rfl ?_ | refine off_sub rfl ?_ | refine zgG rfl ?_)) (h4:Off (och++gar) m m0:=by repeat (first | exact zf0 _ _ _ | exact zgH _ _ | refine off_upd rfl ?_ | refine off_sub rfl ?_ | refine zgG rfl ?_)) (hR:okR2 [] och gar N=true:=by decide):JoinP asg och gar N sl ob Inv s0 m0 Q .normal ⟨s,m⟩ :=
 s_join a' [] h1 h5 h6 h3 h4 hR
theorem s_rn {sl:Nat × α→List (Nat × V)} {ob:Nat × α→List (Nat × Ob)} {Inv:Nat × α→Prop} {b:α} {fu:Nat} (a':Nat × α) (h1:Inv a') (R:List (Nat × Nat):=[]) (h5:HasR s och gar (qOf R) (sl a'):=by repeat (first | exact trivial | refine hasR_cons (by conv=>lhs;whnf) (by rfl) rfl ?_)) (h6:HasQ m och gar (qOf R) (ob a'):=by repeat (first | exact trivial | refine hasQ_cons (by conv=>lhs;whnf) (by rfl) rfl ?_))
  (h2:a'.1 < fu+1:=by first | exact Nat.lt_succ_self _ | (dsimp only;omega))
  (h3:Off asg s s0:=by repeat (first | exact zf0 _ _ _ | exact zgH _ _ | refine off_upd rfl ?_ | refine off_sub rfl ?_ | refine zgG rfl ?_)) (h4:Off (och++gar) m m0:=by repeat (first | exact zf0 _ _ _ | exact zgH _ _ | refine off_upd rfl ?_ | refine off_sub rfl ?_ | refine zgG rfl ?_)) (hR:okR2 R och gar N=true:=by decide):Round2 asg och gar N (fun a=>a.1) sl ob Inv s0 m0 (fu+1,b) Q .normal ⟨s,m⟩ :=
 s_rnd2 a' R h1 h5 h6 h2 h3 h4 hR
end
end
end Go.Abs
end
section
set_option linter.unusedSimpArgs false
set_option linter.unusedVariables false
namespace Go.Abs
section
variable {P:Program} {C:Cx} {n:Nat} {s:Nat→V} {m:Nat→Ob} {w:World} {G:Im} {X:Xm}
theorem weak_toDar {k:Nat} {es:List (List T)} {e:TypeId} (hm:m k=.arr es e true):Weak P C n ⟨s,m⟩ ⟨s,upd m k (.dar es e)⟩:=by
 rintro x w ⟨G,X,hM,hd,hsz,ht⟩
 exact ⟨G,X,Mem.toDar hM hm,hd,hsz,ht⟩
theorem awp_toDar {c:Code} {Q:Exit→St→Prop} (k:Nat) {es:List (List T)} {e:TypeId} (hm:m k=.arr es e true) (h:AWP P C n c Q ⟨s,upd m k (.dar es e)⟩):AWP P C n c Q ⟨s,m⟩:=zcu (weak_toDar hm) h
theorem weak_fzDar {k:Nat} {es fs:List (List T)} {e:TypeId} (hm:m k=.dar es e) (hb:(es.all fun r=>r.all T.fzB)=true) (hf:es.map (·.map T.fzT)=fs):Weak P C n ⟨s,m⟩ ⟨s,upd m k (.arr fs e true)⟩:=by
 rintro x w ⟨G,X,hM,hd,hsz,ht⟩
 replace hM:Mem P C m w G X:=hM
 obtain ⟨G',hG,hM'⟩:=hM.fzDar hm hb
 rw [hf] at hM'
 exact ⟨G',X,hM',hd,hsz,fun t htn=>V.Is.mono hG (Xle.refl X) _ _ (ht t htn)⟩
theorem awp_fzDar {c:Code} {Q:Exit→St→Prop} (k:Nat) {es:List (List T)} {e:TypeId} (fs:List (List T)) (hm:m k=.dar es e) (hb:(es.all fun r=>r.all T.fzB)=true) (hf:es.map (·.map T.fzT)=fs) (h:AWP P C n c Q ⟨s,upd m k (.arr fs e true)⟩):AWP P C n c Q ⟨s,m⟩:=zcu (weak_fzDar hm hb hf) h
theorem weak_mvO {i a b:Nat} {o:Ob} (hno:o≠.no) (hs:s i=.ar a) (ha:m a=o) (hb:isNo (m b)=true):Weak P C n ⟨s,m⟩ ⟨upd s i (.ar b),upd (upd m a .dead) b o⟩:=by
 rintro x w ⟨G,X,hM,hd,hsz,ht⟩
 replace hM:Mem P C m w G X:=hM
 replace ht:∀ t,t < n→V.Is G X (s t) (x.eval (.tmp t)):=ht
 have hb:=zca hb
 have hXb:X b=none:=(hM.free b).2 hb
 have hab:a≠b:=fun h=>by rw [h,hb] at ha;exact hno ha.symm
 cases hX:X a with
 | none=>rw [(hM.free a).1 hX] at ha;exact absurd ha.symm hno
 | some v =>
   have e1:∀ k x,X k=some x→(fun k=>if k=b then some v else X k) k=some x:=fun k x hk=>by
    by_cases h:k=b
    ·rw [h,hXb] at hk;cases hk
    ·simp only [if_neg h];exact hk
   have hmo:∀ k,k≠b→k≠a→upd (upd m a Ob.dead) b o k=m k:=fun k h1 h2=>by rw [zw _ _ _ h1,zw _ _ _ h2]
   have hma:upd (upd m a Ob.dead) b o a=.dead:=by rw [zw _ _ _ hab,zm]
   have hmb:upd (upd m a Ob.dead) b o b=o:=zm _ _ _
   refine ⟨G,fun k=>if k=b then some v else X k,⟨hM.gle,hM.gold,hM.gok,hM.keeps,?_,?_,?_,?_,?_,?_⟩,hd,hsz,?_⟩
   ·intro k x hk
    by_cases h1:k=b
    ·rw [h1] at hk ⊢
     simp only [if_pos] at hk;cases hk
     simp only [hmb]
     have h8:=hM.ob a v hX
     rw [ha] at h8
     have h9:=Ob.Ok_ren (q:=fun k=>k) (Y:=fun k=>if k=b then some v else X k) (fun j _ y hy=>e1 j y hy) h8
     rwa [Ob.ren_id] at h9
    ·simp only [if_neg h1] at hk
     by_cases h2:k=a
     ·subst h2;simp only [hma];trivial
     ·simp only [hmo k h1 h2]
      have:=hM.ob k x hk
      have:=Ob.Ok_ren (q:=fun k=>k) (Y:=fun k=>if k=b then some v else X k) (fun j _ y hy=>e1 j y hy) this
      rwa [Ob.ren_id] at this
   ·intro k
    by_cases h1:k=b
    ·subst h1;simp only [hmb,if_true];simp [hno]
    ·simp only [if_neg h1]
     by_cases h2:k=a
     ·subst h2;simp only [hma,hX];simp
     ·simp only [hmo k h1 h2];exact hM.free k
   ·intro k k' x x' bl hk hk' B1 B2
    have red:∀ k x,(if k=b then some v else X k)=some x→(upd (upd m a Ob.dead) b o k).has w x bl→∃ k0,X k0=some x∧(m k0).has w x bl∧((k=b∧k0=a)∨(k≠b∧k≠a∧k0=k)):=by
     intro k x hk hbk
     by_cases h1:k=b
     ·subst h1
      rw [if_pos rfl] at hk;cases hk
      rw [hmb] at hbk
      exact ⟨a,hX,by rw [ha];exact hbk,.inl ⟨rfl,rfl⟩⟩
     ·rw [if_neg h1] at hk
      by_cases h2:k=a
      ·subst h2;rw [hma] at hbk;exact (Ob.has_dead hbk).elim
      ·rw [hmo k h1 h2] at hbk
       exact ⟨k,hk,hbk,.inr ⟨h1,h2,rfl⟩⟩
    obtain ⟨k1,q1,q2,q3⟩:=red k x hk B1
    obtain ⟨k2,r1,r2,r3⟩:=red k' x' hk' B2
    have:=hM.apart k1 k2 x x' bl q1 r1 q2 r2
    rcases q3 with ⟨rfl,rfl⟩ | ⟨h1,h2,rfl⟩<;>rcases r3 with ⟨rfl,rfl⟩ | ⟨h3,h4,rfl⟩
    ·rfl
    ·exact absurd this.symm h4
    ·exact absurd this h2
    ·exact this
   ·intro k x bl hk hbk
    by_cases h1:k=b
    ·subst h1
     simp only [if_true] at hk;cases hk
     simp only [hmb] at hbk
     exact hM.mine a v bl hX (by rw [ha];exact hbk)
    ·simp only [if_neg h1] at hk
     by_cases h2:k=a
     ·subst h2;simp only [hma] at hbk;exact (Ob.has_dead hbk).elim
     ·simp only [hmo k h1 h2] at hbk;exact hM.mine k x bl hk hbk
   ·intro k x hk
    by_cases h1:k=b
    ·subst h1;simp only [if_true] at hk;cases hk;exact hM.cell a v hX
    ·simp only [if_neg h1] at hk;exact hM.cell k x hk
   ·intro k x hk
    exact e1 k x (hM.old k x hk)
   ·intro t htn
    simp only [upd]
    split
    ·rename_i hti
     subst hti
     have:=ht t htn
     rw [hs,V.Is,hX] at this
     rw [V.Is];simp only [if_true];exact this
    ·exact V.Is.mono (Gle.refl _) (fun k x hk=>e1 k x hk) _ _ (ht t htn)
theorem awp_mvD {c:Code} {Q:Exit→St→Prop} (i a b:Nat) {es:List (List T)} {e:TypeId} (hs:s i=.ar a) (ha:m a=.dar es e) (hb:isNo (m b)=true) (h:AWP P C n c Q ⟨upd s i (.ar b),upd (upd m a .dead) b (.dar es e)⟩):AWP P C n c Q ⟨s,m⟩:=zcu (weak_mvO (by simp) hs ha hb) h
theorem zeN {α:Type} {c:Code} {Q:Exit→St→Prop} (k:Nat) (row:α→List T) {es:List (List T)} {e:TypeId} (hm:m k=.arr es e true) (he:es=[]) (h:AWP P C n c Q ⟨s,upd m k (.dar (([]:List α).map row) e)⟩):AWP P C n c Q ⟨s,m⟩:=by
 subst he;exact awp_toDar k hm h
theorem awp_fzD {α:Type} {c:Code} {Q:Exit→St→Prop} (k:Nat) (row rowO:α→List T) (h1:∀ y,(rowO y).all T.fzB=true) (h2:∀ y,(rowO y).map T.fzT=row y) {l:List α} {e:TypeId} (hm:m k=.dar (l.map rowO) e) (h:AWP P C n c Q ⟨s,upd m k (.arr (l.map row) e true)⟩):AWP P C n c Q ⟨s,m⟩ :=
 awp_fzDar k (l.map row) hm (by simp only [List.all_map,List.all_eq_true];intro y _;exact h1 y) (by rw [List.map_map];exact List.map_congr_left fun y _=>h2 y) h
theorem awp_jnD {α β:Type} {c:Code} {Q:Exit→St→Prop} (q k sz:Nat) (row:α→List T) (rowL:β→List T) {l:List α} {y:α} (y2:α) (l2:List β) {j:Int} {off:Nat} {e e2:TypeId} (hix:idx l j=some y) (hrow2:row y2=(row y).set off (.ow e2 (l2.map rowL)))
  (h:AWP P C n c Q ⟨s,upd (upd m k .dead) q (.dar ((l.set j.toNat y2).map row) e)⟩) (hm:m q=.dah ((l.map row).set j.toNat ((row y).set off .any)) e [(j.toNat,off,k)]:=by conv=>lhs;whnf) (hd:m k=.arr (l2.map rowL) e2 true:=by conv=>lhs;whnf) (hl:(row y).length=sz:=by rfl) (hlt:off < sz:=by decide):AWP P C n c Q ⟨s,m⟩:=by
 have h0:=zbO hix
 have e1:((l.map row).set j.toNat ((row y).set off .any))[j.toNat]?=some ((row y).set off .any):=by rw [List.getElem?_set_self];simp only [List.length_map];omega
 have e5:((row y).set off .any)[off]?=some T.any:=by rw [List.getElem?_set_self];omega
 have e3:((l.map row).set j.toNat ((row y).set off .any)).set j.toNat (((row y).set off .any).set off (.ow e2 (l2.map rowL)))=(l.set j.toNat y2).map row:=by rw [List.set_set,List.set_set,← hrow2,List.map_set]
 refine zcu ?_ h
 rintro x w ⟨G,X,hM,hd',hsz,ht⟩
 replace hM:Mem P C m w G X:=hM
 have:=Mem.joinDah hM hm hd e1 e5
 rw [e3] at this
 exact ⟨G,X,this,hd',hsz,ht⟩
theorem vle_set {us:List V} {off e:Nat} (h:us[off]?=some .nl):VLe (.ag us) (.ag (us.set off (.t (.sc (.nis e))))):=by
 intro G X x hx
 rw [V.Is] at hx ⊢
 obtain ⟨xs,rfl,hl⟩:=hx
 refine ⟨xs,rfl,V.IsL.of_get (by rw [List.length_set];exact hl.length) fun j v hv=>?_⟩
 rw [List.getElem?_set] at hv
 split at hv
 ·rename_i hj
  subst hj
  split at hv
  ·cases hv
   obtain ⟨x,hx,hi⟩:=hl.get off _ h
   refine ⟨x,hx,?_⟩
   rw [V.Is] at hi;rw [V.Is,T.Is];exact hi
  ·cases hv
 ·exact hl.get j v hv
theorem plain_map {β:Type} {rowL:β→List T} (h:∀ y,(rowL y).all T.plain=true) {l:List β}:plainR (l.map rowL)=true:=by
 unfold plainR;simp only [List.all_map,List.all_eq_true];intro y _;exact h y
end
def Hit.rowO (e:Nat) (x:Hit):List T:=[.sc (.int .i64 (x.name.kind)),.sc (.str (x.name.name)),.sc (.int .i64 (x.name.n)),.sl ((x.name.scopes).map rI),.sl ((x.name.kids).map Form.row),.sc (.int .i64 (x.depth)),.sc (.int .i64 (x.one.kind)),.sc (.str (x.one.name)),.sc (.int .i64 (x.one.n)),.sl ((x.one.scopes).map rI),.sl ((x.one.kids).map Form.row),.ow e (x.many.map Hit.row)]
def Hit.rowN (e:Nat) (x:Hit):List T:=[.sc (.int .i64 (x.name.kind)),.sc (.str (x.name.name)),.sc (.int .i64 (x.name.n)),.sl ((x.name.scopes).map rI),.sl ((x.name.kids).map Form.row),.sc (.int .i64 (x.depth)),.sc (.int .i64 (x.one.kind)),.sc (.str (x.one.name)),.sc (.int .i64 (x.one.n)),.sl ((x.one.scopes).map rI),.sl ((x.one.kids).map Form.row),.sc (.nis e)]
theorem Hit.row_plain (x:Hit):x.row.all T.plain=true:=by rw [Hit.row_eq];rfl
theorem Hit.rowO_fzB (e:Nat) (x:Hit):(x.rowO e).all T.fzB=true:=by
 simp only [Hit.rowO,List.all_cons,List.all_nil,T.fzB,Bool.true_and,Bool.and_true];exact plain_map Hit.row_plain
theorem Hit.rowO_fzT (e:Nat) (x:Hit):(x.rowO e).map T.fzT=x.row:=by rw [Hit.row_eq];rfl
theorem Hit.rowN_nis {P:Program} {e sz:Nat} (h:szOf P e=some sz) (x:Hit):(x.rowN e).all (T.nisB P)=true:=by
 simp only [Hit.rowN,List.all_cons,List.all_nil,T.nisB,h,Option.isSome_some,Bool.and_self]
section
variable {P:Program} {C:Cx} {n:Nat} {ops:Array Oper} {K:List (Nat × Oper × Ev)→St→Prop} {r:List (Oper × Nat)} {acc:List (Nat × Oper × Ev)} {ix:Nat} {s:Nat→V} {m:Nat→Ob} {d:Tmp} {ty:TypeId} {pos:String} {after:Array Edge} {g:Option (Nat × Bool)}
theorem r_anyW {op:Op} {dst:Option Tmp} {v0 v:V} {u:List (Nat × Ob)} {s':Nat→V} {m':Nat→Ob} {fp:List Nat} (hg:zz n ops ⟨dst,op,ty,pos,after,g⟩ ⟨s,m⟩=some true) (h:aeff P (idOf ⟨dst,op,ty,pos,after,g⟩) (ev n s) m op=some (v0,u)) (hle:VLe v0 v) (hfp:fpOf (idOf ⟨dst,op,ty,pos,after,g⟩) (ev n s) op=fp)
  (hs:putS s dst v=s') (hm:app m u=m') (hr:Run P n ops K r ((ix,⟨dst,op,ty,pos,after,g⟩,⟨v,u,fp⟩)::acc) ⟨s',m'⟩):Run P n ops K ((⟨dst,op,ty,pos,after,g⟩,ix)::r) acc ⟨s,m⟩:=by
 subst hs;subst hm;subst hfp;exact run_opW hg h hle (by cases dst<;>exact hr)
theorem s_lenD {α:Type} {l:List α} {row:α→List T} {t e e':TypeId} {q:Nat} {x:Operand} {fp:List Nat} (ht:P.underlying t=some (.slice e)) (hr:Run P n ops K r ((ix,⟨some d,.call { callee:=.builtin .len,args:=#[x],argTypes:=#[t] },ty,pos,after,g⟩,⟨.t (.sc (.int .i64 (l.length:Nat))),[],fp⟩)::acc) ⟨upd s d (.t (.sc (.int .i64 (l.length:Nat)))),m⟩) (hg:zz n ops ⟨some d,.call { callee:=.builtin .len,args:=#[x],argTypes:=#[t] },ty,pos,after,g⟩ ⟨s,m⟩=some true:=by rfl) (hx:ev n s x=.ar q:=by conv=>lhs;whnf) (hm:m q=.dar (l.map row) e':=by conv=>lhs;whnf) (hfp:fpOf (idOf ⟨some d,.call { callee:=.builtin .len,args:=#[x],argTypes:=#[t] },ty,pos,after,g⟩) (ev n s) (.call { callee:=.builtin .len,args:=#[x],argTypes:=#[t] })=fp:=by rfl):Run P n ops K ((⟨some d,.call { callee:=.builtin .len,args:=#[x],argTypes:=#[t] },ty,pos,after,g⟩,ix)::r) acc ⟨s,m⟩:=r_len hg ht hx (by simp only [lenV,hm,List.length_map]) hfp hr
theorem zgi {α:Type} {l:List α} {y:α} {t:TypeId} {x i:Operand} {e e':TypeId} {sz q:Nat} {k:IntKind} {j:Int} {fp:List Nat} (row:α→List T) (hix:idx l j=some y) (he:elOf P t=some (e,sz)) (hr:Run P n ops K r ((ix,⟨some d,.indexAddr t x i,ty,pos,after,g⟩,⟨.re q j.toNat sz 0,[],fp⟩)::acc) ⟨upd s d (.re q j.toNat sz 0),m⟩) (hg:zz n ops ⟨some d,.indexAddr t x i,ty,pos,after,g⟩ ⟨s,m⟩=some true:=by rfl) (hx:ev n s x=.ar q:=by conv=>lhs;whnf) (hm:m q=.dar (l.map row) e':=by conv=>lhs;whnf) (hi:ev n s i=.t (.sc (.int k j)):=by conv=>lhs;whnf) (hfp:fpOf (idOf ⟨some d,.indexAddr t x i,ty,pos,after,g⟩) (ev n s) (.indexAddr t x i)=fp:=by rfl):Run P n ops K ((⟨some d,.indexAddr t x i,ty,pos,after,g⟩,ix)::r) acc ⟨s,m⟩:=zgo hg he hx hi (zbO hix).1 (by have:=zbO hix;simp only [zhb,hm,List.length_map];rw [if_pos (by omega)]) hfp hr
theorem s_ixH {α:Type} {l:List α} {y:α} {t:TypeId} {x i:Operand} {e e':TypeId} {sz q j2:Nat} {z:List T} {k:IntKind} {j:Int} {fp:List Nat} (row:α→List T) (hix:idx l j=some y) (he:elOf P t=some (e,sz)) (hr:Run P n ops K r ((ix,⟨some d,.indexAddr t x i,ty,pos,after,g⟩,⟨.re q j.toNat sz 0,[],fp⟩)::acc) ⟨upd s d (.re q j.toNat sz 0),m⟩) (hg:zz n ops ⟨some d,.indexAddr t x i,ty,pos,after,g⟩ ⟨s,m⟩=some true:=by rfl) (hx:ev n s x=.ar q:=by conv=>lhs;whnf) (hm:m q=.dar ((l.map row).set j2 z) e':=by conv=>lhs;whnf) (hi:ev n s i=.t (.sc (.int k j)):=by conv=>lhs;whnf) (hfp:fpOf (idOf ⟨some d,.indexAddr t x i,ty,pos,after,g⟩) (ev n s) (.indexAddr t x i)=fp:=by rfl):Run P n ops K ((⟨some d,.indexAddr t x i,ty,pos,after,g⟩,ix)::r) acc ⟨s,m⟩:=zgo hg he hx hi (zbO hix).1 (by have:=zbO hix;simp only [zhb,hm,List.length_set,List.length_map];rw [if_pos (by omega)]) hfp hr
theorem s_ldD {α β:Type} {l:List α} {y:α} {t e e2:TypeId} {x:Operand} {q sz off:Nat} {j:Int} {fp:List Nat} (row:α→List T) (rowL:β→List T) (l2:List β) (hpl:∀ y,(rowL y).all T.plain=true) (hix:idx l j=some y) (ha:zee P t=some false) (he:szOf P e=some sz) (hr:Run P n ops K r ((ix,⟨some d,.load t x,ty,pos,after,g⟩,⟨.ar d,[(q,.dar ((l.map row).set j.toNat ((row y).set off .any)) e),(d,.arr (l2.map rowL) e2 true)],fp⟩)::acc) ⟨upd s d (.ar d),upd (upd m q (.dar ((l.map row).set j.toNat ((row y).set off .any)) e)) d (.arr (l2.map rowL) e2 true)⟩) (hg:zz n ops ⟨some d,.load t x,ty,pos,after,g⟩ ⟨s,m⟩=some true:=by rfl) (hx:ev n s x=.re q j.toNat sz off:=by conv=>lhs;whnf) (hm:m q=.dar (l.map row) e:=by conv=>lhs;whnf) (hw:(row y)[off]?=some (.ow e2 (l2.map rowL)):=by rfl) (h1:isNo (m d)=true:=by rfl) (hfp:fpOf (idOf ⟨some d,.load t x,ty,pos,after,g⟩) (ev n s) (.load t x)=fp:=by rfl):Run P n ops K ((⟨some d,.load t x,ty,pos,after,g⟩,ix)::r) acc ⟨s,m⟩:=by
 refine zeO (v:=.ar d) (u:=[(q,.dar ((l.map row).set j.toNat ((row y).set off .any)) e),(d,.arr (l2.map rowL) e2 true)]) hg ?_ hfp rfl rfl hr
 have hc:zd3 m (.re q j.toNat sz off)=none:=by simp only [zd3,hm]
 simp only [aeff,hx,hc,aown,hm,idx_row row hix,hw,plain_map hpl,he,ha,idOf,Option.getD_some,h1,and_self,if_true]
theorem s_stD {α:Type} {l:List α} {y:α} {t e:TypeId} {p x:Operand} {q k sz off:Nat} {j:Int} (row:α→List T) (hix:idx l j=some y) (hs:szOf P t=some 1) (he:szOf P e=some sz) (hr:Run P n ops K r ((ix,⟨none,.store t p x,ty,pos,after,g⟩,⟨.jk,[(q,.dah ((l.map row).set j.toNat ((row y).set off .any)) e [(j.toNat,off,k)])],[q]⟩)::acc) ⟨s,upd m q (.dah ((l.map row).set j.toNat ((row y).set off .any)) e [(j.toNat,off,k)])⟩) (hg:zz n ops ⟨none,.store t p x,ty,pos,after,g⟩ ⟨s,m⟩=some true:=by rfl)
  (hp:ev n s p=.re q j.toNat sz off:=by conv=>lhs;whnf) (hm:m q=.dar ((l.map row).set j.toNat ((row y).set off .any)) e:=by conv=>lhs;whnf) (hx:ev n s x=.ar k:=by conv=>lhs;whnf) (hl:(row y).length=sz:=by rfl) (hlt:off < sz:=by decide):Run P n ops K ((⟨none,.store t p x,ty,pos,after,g⟩,ix)::r) acc ⟨s,m⟩:=by
 have h0:=zbO hix
 have e1:((l.map row).set j.toNat ((row y).set off .any))[j.toNat]?=some ((row y).set off .any):=by rw [List.getElem?_set_self];simp only [List.length_map];omega
 have e5:((row y).set off .any)[off]?=some T.any:=by rw [List.getElem?_set_self];omega
 exact run_stO hg rfl hp hx hm e1 e5 he hs hr
theorem s_apD {α:Type} {l l2:List α} {t e:TypeId} {by' sz k:Nat} {x y:Operand} {v:V} {u:List (Nat × Ob)} {m1:Nat→Ob} {fp:List Nat} (row rowN:α→List T) (hN:∀ y,(rowN y).all (T.nisB P)=true) (hrow:∀ y,(rowN y).length=sz) (hO:(l2.map rowN).map (·.map T.nisO)=l2.map row) (hb:decide ((l.length+l2.length)*by'≤140737488355328)=true) (ha:apOf P t=some (e,by',sz)) (hr:Run P n ops K r ((ix,⟨some d,.call { callee:=.builtin .append,args:=#[x,y],argTypes:=#[t,t] },ty,pos,after,g⟩,⟨.ar d,u++[(k,.dead),(d,.dar ((l++l2).map row) e)],fp⟩)::acc) ⟨upd s d (.ar d),upd (upd m1 k .dead) d (.dar ((l++l2).map row) e)⟩) (hg:zz n ops ⟨some d,.call { callee:=.builtin .append,args:=#[x,y],argTypes:=#[t,t] },ty,pos,after,g⟩ ⟨s,m⟩=some true:=by rfl) (hx:ev n s x=.ar k:=by conv=>lhs;whnf) (hy:ev n s y=v:=by conv=>lhs;whnf) (hv:toT m v=some (.sl (l2.map rowN)):=by first | (conv=>lhs;whnf) | rfl) (h1:isNo (m d)=true:=by rfl) (h2:isNo (m (d+1000))=true:=by rfl) (h3:d ∉ fz v:=by simp [fz]) (h4:d+1000 ∉ fz v:=by simp [fz]) (hu:fzU m (fz v)=u:=by repeat (first | exact zgx | (apply zfD;focus ((conv=>lhs;whnf);done)) | (apply zfC;focus ((conv=>lhs;whnf);done)))) (hm1:app m u=m1:=by simp only [app];rfl) (hm:m1 k=.dar (l.map row) e:=by conv=>lhs;whnf) (hfp:fpOf (idOf ⟨some d,.call { callee:=.builtin .append,args:=#[x,y],argTypes:=#[t,t] },ty,pos,after,g⟩) (ev n s) (.call { callee:=.builtin .append,args:=#[x,y],argTypes:=#[t,t] })=fp:=by rfl):Run P n ops K ((⟨some d,.call { callee:=.builtin .append,args:=#[x,y],argTypes:=#[t,t] },ty,pos,after,g⟩,ix)::r) acc ⟨s,m⟩:=by
 subst hu;subst hm1
 refine zeO (v:=.ar d) (u:=fzU m (fz v)++[(k,.dead),(d,.dar ((l++l2).map row) e)]) hg ?_ hfp rfl (by rw [zdc];rfl) hr
 have hn:((l2.map rowN).all fun r=>r.all (T.nisB P))=true:=by simp only [List.all_map,List.all_eq_true];intro y _;exact hN y
 have B2:(l.length+l2.length)*by'≤140737488355328:=of_decide_eq_true hb
 simp only [aeff,acall,aappend,ha,hx,hy,hv,all_len hrow,idOf,Option.getD_some,h1,h2,h3,h4,hm,hn,hO,List.length_map,B2,not_false_eq_true,and_self,if_true,← List.map_append]
theorem s_bldN {t:TypeId} {parts:Array (Nat × Operand)} {zs us vs:List V} {pl:List (Nat × Nat)} {ps:List (Nat × V)} {fp:List Nat} (off e:Nat) (hz:zdA P t=some zs) (hpl:zgF P t=some pl) (hr:Run P n ops K r ((ix,⟨some d,.build t parts,ty,pos,after,g⟩,⟨.ag vs,[],fp⟩)::acc) ⟨upd s d (.ag vs),m⟩) (hg:zz n ops ⟨some d,.build t parts,ty,pos,after,g⟩ ⟨s,m⟩=some true:=by rfl) (hp:parts.toList.map (fun p=>(p.1,ev n s p.2))=ps:=by simp only [ev_tmp,ev_const,ev_func,upd_at,zfi,slots_nil,zaY,zdT,Nat.reduceLT,Nat.reduceEqDiff,Nat.reduceAdd,reduceIte,if_true,if_false,ofVal,ofS,noOb,reduceCtorEq,zcU,List.elem_cons,List.elem_nil,Nat.reduceBEq,cond_true,cond_false,beq_self_eq_true,List.take_succ_cons,List.take_zero,List.drop_succ_cons,List.drop_zero,List.take_nil,List.drop_nil,List.nil_append,List.cons_append,List.append_nil,List.length_cons,List.length_nil,List.head?_cons,List.map_cons,List.map_nil,Nat.reduceAdd,Nat.zero_add,List.length_map,List.toList_toArray];rfl) (hf:afill (pl[·]?) zs ps=some us:=by simp only [afill,zgz,V.one,zam,zau,List.take_succ_cons,List.take_zero,List.drop_succ_cons,List.drop_zero,List.take_nil,List.drop_nil,List.nil_append,List.cons_append,List.append_nil,List.length_cons,List.length_nil,List.head?_cons,List.map_cons,List.map_nil,Nat.reduceAdd,Nat.zero_add,List.length_map,List.getElem?_cons_zero,List.getElem?_cons_succ,and_self,if_true,reduceIte,Nat.reduceLeDiff,true_and,and_true,Nat.le_refl];rfl) (hnl:us[off]?=some .nl:=by rfl) (hvs:us.set off (.t (.sc (.nis e)))=vs:=by simp only [List.set_cons_succ,List.set_cons_zero];rfl) (hfp:fpOf (idOf ⟨some d,.build t parts,ty,pos,after,g⟩) (ev n s) (.build t parts)=fp:=by rfl):Run P n ops K ((⟨some d,.build t parts,ty,pos,after,g⟩,ix)::r) acc ⟨s,m⟩:=by
 subst hp;subst hvs
 exact r_anyW (v0:=.ag us) (u:=[]) hg (by simp only [aeff,hz,hpl,hf]) (vle_set hnl) hfp rfl rfl hr
end
end Go.Abs
end
