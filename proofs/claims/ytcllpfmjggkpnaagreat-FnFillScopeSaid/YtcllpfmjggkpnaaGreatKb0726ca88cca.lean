/- A part of the proof: what the functions that the law calls answer, as pure values. -/
import Derived.KernelRfl
import Derived.Test.YtcllpfmjggkpnaaGreatK1db05618b953
set_option linter.unusedSimpArgs false
set_option linter.unusedVariables false
section
set_option linter.unusedSimpArgs false
set_option linter.unusedVariables false
namespace Go.Abs
section
variable {P:Program} {n:Nat}
theorem AC_i {f:FuncId} {fn:Func} {c:Code} {N:Nat} (rs:List V) (hf:P.funcs[f]?=some fn) (hb:fn.body=some c) (hn:fn.ntmps=N) {args:List V} {os os':Nat→Ob}
  (h:∀ C:Cx,(∀ k,C.X0 k≠none→os k≠.no)→AWP P C N c (Fin P N fn rs os') ⟨fun t=>args.getD t .jk,os⟩)
  (hname:(fn.name == "runtime.NumGoroutine")=false:=by kernel_rfl) (hlen:args.length≤N:=by simp) (hkeep:∀ k,os k≠.no→os' k≠.no:=by first | (simp [noOb];done) | exact keep_all rfl):AC P f args os (one1 rs) os':=by
 subst hn
 exact AC_intro hf hb hname hlen hkeep h
theorem zl {fn:Func} {rr:Array ResultVar} {rs vs:List V} {s':Nat→V} {m' m1:Nat→Ob} {u:List (Nat × Ob)} (L':List (Nat × Ob)) (ks:List Nat) (hrr:fn.results=rr)
  (h1:zhI P n ⟨s',m'⟩ rr.toList=some vs:=by first | exact (zah (by conv=>lhs;whnf) zP) | exact (zah (by conv=>lhs;whnf) (zah (by conv=>lhs;whnf) zP)) | exact (zah (by conv=>lhs;whnf) (zah (by conv=>lhs;whnf) (zah (by conv=>lhs;whnf) zP))) | exact (zah (by conv=>lhs;whnf) (zah (by conv=>lhs;whnf) (zah (by conv=>lhs;whnf) (zah (by conv=>lhs;whnf) zP)))) | exact (zah (by conv=>lhs;whnf) (zah (by conv=>lhs;whnf) (zah (by conv=>lhs;whnf) (zah (by conv=>lhs;whnf) (zah (by conv=>lhs;whnf) zP))))) | exact zP)
  (hu:fzU m' ks=u:=by repeat (first | exact fzU_nil | (apply zhl;focus ((conv=>lhs;whnf);done)) | (apply zhk;focus ((conv=>lhs;whnf);done))))
  (hm1:app m' u=m1:=by simp only [app];rfl)
  (h2:GiveL m1 ks vs rs:=by repeat (first | exact giveL_nil | refine giveL_cons (by first | exact .inl rfl | exact give_T rfl rfl | exact give_Ts rfl rfl rfl) ?_))
  (ho:HasO m1 L':=by repeat (first | exact zaW | refine zT (by conv=>lhs;whnf) (by rfl) ?_))
  (hi:L'.all (fun p=>p.2.ids.all (fun j=>(L'.map (·.1)).elem j))=true:=by rfl)
  (hr:(V.idsL rs).all (fun k=>(L'.map (·.1)).elem k)=true:=by rfl):Ends P n fn rs (objs L') ⟨s',m'⟩:=by
 subst hrr
 exact zI L' ks h1 hu hm1 h2 ho hi hr
end
section
variable {P:Program} {C:Cx} {n:Nat} {Q:Exit→St→Prop} {s:Nat→V} {m:Nat→Ob}
theorem zbk {β:Type} {c:Code} (asg och gar:List Nat) (sl:Nat × β→List (Nat × V)) (ob:Nat × β→List (Nat × Ob)) (Inv:Nat × β→Prop) (a0:Nat × β) (h0:Inv a0)
  (round:∀ a,Inv a→AWP P C n c (Round2 asg och gar [] (fun a=>a.1) sl ob Inv s m a Q) ⟨frame asg (slots (sl a)) s,frame och (objs (ob a)) m⟩)
  (hga:gar.all (fun k=>isNo (m k))=true:=by rfl) (hdis:och.all (fun k=>!gar.elem k)=true:=by rfl) (hoc:∀ a,(ob a).map (·.1)=och:=by intro _;rfl)
  (hs:HasF s (sl a0):=by repeat (first | exact za7 | refine zG (by conv=>lhs;whnf) (by rfl) ?_)) (ho:HasO m (ob a0):=by repeat (first | exact zaW | refine zT (by conv=>lhs;whnf) (by rfl) ?_)):AWP P C n (.loop c) Q ⟨s,m⟩ :=
 zap asg och gar [] (fun a=>a.1) sl ob Inv a0 h0 hga hdis hoc hs ho (fun _ h=>by cases h) freshS_nil freshM_nil round
theorem zbj {α:Type} {x y:Code} (asg och gar:List Nat) (sl:α→List (Nat × V)) (ob:α→List (Nat × Ob)) (Inv:α→Prop)
  (hA:AWP P C n x (JoinP asg och gar [] sl ob Inv s m Q) ⟨s,m⟩) (hJ:∀ a,Inv a→AWP P C n y Q ⟨frame asg (slots (sl a)) s,frame och (objs (ob a)) m⟩)
  (hga:gar.all (fun k=>isNo (m k))=true:=by rfl) (hoc:∀ a,(ob a).map (·.1)=och:=by intro _;rfl):AWP P C n (.seq x y) Q ⟨s,m⟩ :=
 awp_seqJ asg och gar [] sl ob Inv hga hoc (fun _ h=>by cases h) freshS_nil freshM_nil hA hJ
section
variable {α:Type} {asg och gar N:List Nat} {s0:Nat→V} {m0:Nat→Ob}
theorem s_jn {sl:α→List (Nat × V)} {ob:α→List (Nat × Ob)} {Inv:α→Prop} (a':α) (h1:Inv a') (h5:HasR s och gar (qOf []) (sl a'):=by repeat (first | exact trivial | refine hasR_cons (by conv=>lhs;whnf) (by rfl) rfl ?_)) (h6:HasQ m och gar (qOf []) (ob a'):=by repeat (first | exact trivial | refine hasQ_cons (by conv=>lhs;whnf) (by rfl) rfl ?_))
  (h3:Off asg s s0:=by repeat (first | exact zgx _ _ _ | exact zhc _ _ | refine off_upd rfl ?_ | refine off_sub rfl ?_ | refine zhb rfl ?_)) (h4:Off (och++gar) m m0:=by repeat (first | exact zgx _ _ _ | exact zhc _ _ | refine off_upd rfl ?_ | refine off_sub rfl ?_ | refine zhb rfl ?_)) (hR:okR2 [] och gar N=true:=by decide):JoinP asg och gar N sl ob Inv s0 m0 Q .normal ⟨s,m⟩ :=
 s_join a' [] h1 h5 h6 h3 h4 hR
theorem s_rn {sl:Nat × α→List (Nat × V)} {ob:Nat × α→List (Nat × Ob)} {Inv:Nat × α→Prop} {b:α} {fu:Nat} (a':Nat × α) (h1:Inv a') (R:List (Nat × Nat):=[]) (h5:HasR s och gar (qOf R) (sl a'):=by repeat (first | exact trivial | refine hasR_cons (by conv=>lhs;whnf) (by rfl) rfl ?_)) (h6:HasQ m och gar (qOf R) (ob a'):=by repeat (first | exact trivial | refine hasQ_cons (by conv=>lhs;whnf) (by rfl) rfl ?_))
  (h2:a'.1 < fu+1:=by first | exact Nat.lt_succ_self _ | (dsimp only;omega))
  (h3:Off asg s s0:=by repeat (first | exact zgx _ _ _ | exact zhc _ _ | refine off_upd rfl ?_ | refine off_sub rfl ?_ | refine zhb rfl ?_)) (h4:Off (och++gar) m m0:=by repeat (first | exact zgx _ _ _ | exact zhc _ _ | refine off_upd rfl ?_ | refine off_sub rfl ?_ | refine zhb rfl ?_)) (hR:okR2 R och gar N=true:=by decide):Round2 asg och gar N (fun a=>a.1) sl ob Inv s0 m0 (fu+1,b) Q .normal ⟨s,m⟩ :=
 s_rnd2 a' R h1 h5 h6 h2 h3 h4 hR
end
end
end Go.Abs
end
section
set_option linter.unusedSimpArgs false
set_option linter.unusedVariables false
namespace Go.Abs
section
variable {P:Program} {C:Cx} {n:Nat} {s:Nat→V} {m:Nat→Ob} {w:World} {G:Im} {X:Xm}
theorem awp_nlB {c:Code} {Q:Exit→St→Prop} {cs:List V} (k i:Nat) (ds:List V) (hm:m k=.box cs) (hi:cs[i]?=some .nl) (hd:cs.set i (.t (.sl []))=ds) (h:AWP P C n c Q ⟨s,upd m k (.box ds)⟩):AWP P C n c Q ⟨s,m⟩:=by
 subst hd
 refine zhT ?_ h
 rintro x w ⟨G,X,hM,hd',hsz,ht⟩
 replace hM:Mem P C m w G X:=hM
 refine ⟨G,X,Mem.less2 hM k _ (fun y hy hok=>?_) ⟨fun h=>by simp at h,fun h=>by rw [hm] at h;cases h⟩,hd',hsz,ht⟩
 rw [hm] at hok ⊢
 obtain ⟨b,cur,e,rfl,hw,hl,hn⟩:=hok
 refine ⟨⟨b,cur,e,rfl,hw,V.IsL.of_get (by rw [List.length_set];exact hl.length) fun j v hv=>?_,hn⟩,fun _ hb=>hb⟩
 rw [List.getElem?_set] at hv
 split at hv
 ·rename_i hj
  subst hj
  split at hv
  ·cases hv
   obtain ⟨z,hz,hi'⟩:=hl.get i _ hi
   refine ⟨z,hz,?_⟩
   rw [V.Is] at hi';subst hi'
   rw [V.Is,T.Is]
   exact ⟨none,0,0,rfl,Nat.le_refl _,Nat.zero_le _,.inl rfl⟩
  ·cases hv
 ·exact hl.get j v hv
end
end Go.Abs
end
section
set_option linter.unusedVariables false
set_option linter.unusedSimpArgs false
namespace Go.Abs
section
variable {P:Program} {C:Cx} {m:Nat→Ob} {w:World} {G:Im} {X:Xm}
theorem Mem.rewriteW (h:Mem P C m w G X) {k:Nat} {x:Value} (hx:X k=some x) {w':World} (o:Ob) (hos:w'.os=w.os) (htape:w'.tape=w.tape) (hout:w'.output=w.output) (hsize:w.heap.size≤w'.heap.size)
  (hblk:∀ b,b < w.heap.size→¬ (m k).has w x b→w'.heap[b]?=w.heap[b]?) (hG:∀ b,(m k).has w x b→G b=none) (hno:o≠.no)
  (hbl:∀ b,o.has w' x b→(m k).has w x b) (hok:Ob.Ok P G X w' o x):Mem P C (upd m k o) w' G X:=by
 have hh:∀ k1 y b,k1≠k→X k1=some y→(m k1).has w' y b→(m k1).has w y b:=fun k1 y b hk hy hb =>
  (Ob.has_congr (fun b2 B2=>hblk b2 (h.blk_lt hy B2) (fun B3=>hk (h.apart k1 k y x b2 hy hx B2 B3))) (h.ob k1 y hy) b).1 hb
 have f:∀ k1 y1 b',X k1=some y1→(upd m k o k1).has w' y1 b'→(m k1).has w y1 b':=fun k1 y1 b' h1 B1=>by
  by_cases e1:k1=k
  ·subst e1;rw [zv] at B1;rw [hx] at h1;cases h1;exact hbl b' B1
  ·rw [zC _ _ _ e1] at B1;exact hh k1 y1 b' e1 h1 B1
 refine ⟨h.gle,h.gold,?_,⟨hos.trans h.keeps.os,htape.trans h.keeps.tape,hout.trans h.keeps.output,Nat.le_trans h.keeps.size hsize,?_⟩,?_,?_,?_,?_,h.cell,h.old⟩
 ·intro b cs hb
  obtain ⟨cur,e,fr,hw,hr⟩:=h.gok b cs hb
  exact ⟨cur,e,fr,by rw [hblk b (h.gok.lt hb) (fun B2=>by rw [hG b B2] at hb;cases hb)];exact hw,hr⟩
 ·intro b hb hnb
  rw [hblk b (by have:=h.keeps.size;omega) (fun hb'=>?_)]
  ·exact h.keeps.block b hb hnb
  ·rcases h.mine k x b hx hb' with h3 | h3
   ·exact hnb h3
   ·omega
 ·intro k' y hy
  by_cases hk:k'=k
  ·subst hk;rw [zv];rw [hx] at hy;cases hy;exact hok
  ·rw [zC _ _ _ hk]
   exact (h.ob k' y hy).mono (Gle.refl G) (Xle.refl X) (fun _ _=>rfl) (fun b' hb'=>hblk b' (h.blk_lt hy hb') (fun B2=>hk (h.apart k' k y x b' hy hx hb' B2)))
 ·intro k'
  by_cases hk:k'=k
  ·subst hk;rw [zv,hx];simp [hno]
  ·rw [zC _ _ _ hk];exact h.free k'
 ·intro k1 k2 y1 y2 b' h1 h2 B1 B2
  exact h.apart _ _ _ _ _ h1 h2 (f _ _ _ h1 B1) (f _ _ _ h2 B2)
 ·intro k1 y b' h1 B1
  exact h.mine k1 y b' h1 (f _ _ _ h1 B1)
theorem Mem.renew (h:Mem P C m w G X) {k id:Nat} {x x':Value} (hx:X k=some x) (hid:m id=.no) {w':World} (o:Ob) (hos:w'.os=w.os) (htape:w'.tape=w.tape) (hout:w'.output=w.output) (hsize:w.heap.size≤w'.heap.size)
  (hblk:∀ b,b < w.heap.size→¬ (m k).has w x b→w'.heap[b]?=w.heap[b]?) (hG:∀ b,(m k).has w x b→G b=none) (hno:o≠.no)
  (hbl:∀ b,o.has w' x' b→(m k).has w x b∨w.heap.size≤b) (hok:Ob.Ok P G (upd X id (some x')) w' o x') (hone:x'.oneCell'=true) :
  Mem P C (upd (upd m k .dead) id o) w' G (upd X id (some x'))∧Xle X (upd X id (some x')):=by
 have hXid:X id=none:=(h.free id).2 hid
 have h1:Mem P C (upd m k .dead) w' G X:=h.rewriteW hx .dead hos htape hout hsize hblk hG (by simp) (fun b hb=>(Ob.has_dead hb).elim) trivial
 have hkid:id≠k:=by rintro rfl;rw [hx] at hXid;cases hXid
 have hnew:∀ k1 y b,X k1=some y→(upd m k .dead k1).has w' y b→o.has w' x' b→False:=by
  intro k1 y b hy B1 B2
  by_cases e1:k1=k
  ·subst e1;rw [zv] at B1;exact Ob.has_dead B1
  ·rw [zC _ _ _ e1] at B1
   have B3:(m k1).has w y b:=(Ob.has_congr (fun b2 B2=>hblk b2 (h.blk_lt hy B2) (fun B3=>e1 (h.apart k1 k y x b2 hy hx B2 B3))) (h.ob k1 y hy) b).1 B1
   rcases hbl b B2 with h2 | h2
   ·exact e1 (h.apart k1 k y x b hy hx B3 h2)
   ·have:=h.blk_lt hy B3;omega
 refine ⟨⟨h1.gle,h1.gold,h1.gok,h1.keeps,?_,?_,?_,?_,?_,fun k y hk=>zdc hXid k y (h1.old k y hk)⟩,zdc hXid⟩
 ·intro k' y hy
  by_cases e1:k'=id
  ·subst e1;rw [zv] at hy ⊢;cases hy;exact hok
  ·rw [zC _ _ _ e1] at hy ⊢
   exact (h1.ob k' y hy).mono (Gle.refl G) (zdc hXid) (fun _ _=>rfl) (fun _ _=>rfl)
 ·intro k'
  by_cases e1:k'=id
  ·subst e1;rw [zv,zv];simp [hno]
  ·rw [zC _ _ _ e1,zC _ _ _ e1];exact h1.free k'
 ·intro k1 k2 y1 y2 b h2 h3 B1 B2
  by_cases e1:k1=id<;>by_cases e2:k2=id
  ·rw [e1,e2]
  ·subst e1;rw [zv] at h2 B1;cases h2
   rw [zC _ _ _ e2] at h3 B2
   exact (hnew k2 y2 b h3 B2 B1).elim
  ·subst e2;rw [zv] at h3 B2;cases h3
   rw [zC _ _ _ e1] at h2 B1
   exact (hnew k1 y1 b h2 B1 B2).elim
  ·rw [zC _ _ _ e1] at h2 B1;rw [zC _ _ _ e2] at h3 B2
   exact h1.apart k1 k2 y1 y2 b h2 h3 B1 B2
 ·intro k1 y1 b h2 B1
  by_cases e1:k1=id
  ·subst e1;rw [zv] at h2 B1;cases h2
   rcases hbl b B1 with h3 | h3
   ·exact h.mine k x b hx h3
   ·exact .inr (by have:=h.keeps.size;omega)
  ·rw [zC _ _ _ e1] at h2 B1
   exact h1.mine k1 y1 b h2 B1
 ·intro k1 y1 h2
  by_cases e1:k1=id
  ·subst e1;rw [zv] at h2;cases h2;exact hone
  ·rw [zC _ _ _ e1] at h2;exact h1.cell k1 y1 h2
end
end Go.Abs
end
