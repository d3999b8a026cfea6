/- A part of the proof: what the functions that the law calls answer, as pure values. -/
import Derived.IntWalk
import Derived.Test.YtcebadpiebamdaaGreatK3b46b8a97acf
set_option linter.unusedSimpArgs false
set_option linter.unusedVariables false
section
set_option linter.unusedSimpArgs false
set_option linter.unusedVariables false
namespace Go.Abs
section
variable {P:Program} {n:Nat}
variable {os:Nat->Ob} {K:Exit->St->Prop} {st:St}
section
variable {α:Type} (asg och gar:List Nat) (μ:α->Nat) (sl:α->List (Nat × V)) (ob:α->List (Nat × Ob)) (s:Nat->V) (m:Nat->Ob) (P os n) (c:Code) (e:Exit) (st':St)
end
mutual
theorem V.ren_noids {q:Nat->Nat}:∀ (v:V),v.ids=[]->v.ren q=v
 | .rf _ _,h=>by simp [V.ids] at h
 | .re _ _ _ _,h=>by simp [V.ids] at h
 | .ar _,h=>by simp [V.ids] at h
 | .t _,_=>rfl
 | .nl,_=>rfl
 | .pe _,_=>rfl
 | .jk,_=>rfl
 | .ze,_=>rfl
 | .sn _ _,_=>rfl
 | .ag cs,h=>by rw [V.ids] at h;rw [V.ren,V.renL_noids cs h]
 | .tp cs,h=>by rw [V.ids] at h;rw [V.ren,V.renL_noids cs h]
 | .fn f cs,h=>by rw [V.ids] at h;rw [V.ren,V.renL_noids cs h]
theorem V.renL_noids {q:Nat->Nat}:∀ (vs:List V),V.idsL vs=[]->V.renL q vs=vs
 | [],_=>rfl
 | v::vs,h=>by
   rw [V.idsL,List.append_eq_nil_iff] at h;rw [V.renL,V.ren_noids v h.1,V.renL_noids vs h.2]
end
theorem Ob.ren_noids {q:Nat->Nat} {o:Ob} (h:o.ids=[]):o.ren q=o:=by
 cases o with
 | box cs=>rw [Ob.ids] at h;rw [Ob.ren,V.renL_noids cs h]
 | dah es e hs =>
   rw [Ob.ids,List.map_eq_nil_iff] at h;subst h;rfl
 | _=>rfl
section
variable {ops:Array Oper} {KK:List (Nat × Oper × Ev)->St->Prop} {r:List (Oper × Nat)} {acc:List (Nat × Oper × Ev)} {s:Nat->V} {m:Nat->Ob} {d ix:Nat} {ty:_} {pos:_} {after:_} {g:_}
theorem zqS {m1:Nat->Ob} {q:Nat->Nat} {ks:List Nat} {os:Nat->Ob} {v:V} (h:v.ids=[]):zot m1 q ks os v v:=.inl ⟨V.ren_noids v h,by rw [h];simp⟩
end
end
end Go.Abs
namespace Go.Abs
section
variable {P:Program} {n:Nat}
end
end Go.Abs
namespace Go.Abs
section
variable {P:Program} {n:Nat}
section
variable {ops:Array Oper} {KK:List (Nat × Oper × Ev)->St->Prop} {r:List (Oper × Nat)} {acc:List (Nat × Oper × Ev)} {s:Nat->V} {m:Nat->Ob} {d ix:Nat} {ty:_} {pos:_} {after:_} {g:_}
end
end
end Go.Abs
namespace Go.Abs
end Go.Abs
namespace Go.Abs
end Go.Abs
namespace Go.Abs
end Go.Abs
namespace Go.Abs
section
variable {P:Program} {n:Nat} {st:St} {r:List ResultVar} {vs:List V}
theorem cN:zB P n st []=some []:=rfl
theorem dB {t:Nat} {v:V} (hx:ev n st.s (.tmp t)=v) (h:zB P n st r=some vs):zB P n st (.tmp t::r)=some (v::vs):=by
 simp only [zB,h,hx]
theorem dY {a k sz:Nat} {t:TypeId} {cs:List V} (hp:ev n st.s (.tmp a)=.rf k 0) (hm:st.m k=.box cs) (ha:n9 P t=some true) (hs:kG P t=some sz) (hl:cs.length=sz) (h:zB P n st r=some vs):zB P n st (.cell a t::r)=some (.ag cs::vs):=by
 simp only [zB,hp,oD,hm,List.drop_zero,zkG ha hs,hl,Nat.le_refl,if_true,h];rw [List.take_of_length_le (by omega)]
end
end Go.Abs
namespace Go.Abs
theorem xB {m:Nat->Ob}:fzU m []=[]:=rfl
theorem tV {m:Nat->Ob} {k:Nat} {ks:List Nat} {es:List (List T)} {e:TypeId} {u:List (Nat × Ob)} (h:m k=.arr es e true) (h2:fzU (upd m k (.arr es e false)) ks=u):fzU m (k::ks)=(k,.arr es e false)::u:=by
 rw [fzU,h];simp only;rw [h2]
end Go.Abs
namespace Go.Abs
section
variable {P:Program} {n:Nat} {os:Nat->Ob} {K:Exit->St->Prop} {s:Nat->V} {m:Nat->Ob}
end
end Go.Abs
end
section
set_option linter.unusedSimpArgs false
set_option linter.unusedVariables false
namespace Go.Abs
section
variable {P:Program} {n:Nat} {os:Nat->Ob} {K:Exit->St->Prop} {s:Nat->V} {m:Nat->Ob}
theorem zsi {C:Cx} {i a b:Nat} {es:List (List T)} {e:TypeId} {md:Bool} (hs:s i=.ar a) (ha:m a=.arr es e md) (hb:qE (m b)=true):zqo P C n ⟨s,m⟩ ⟨upd s i (.ar b),upd (upd m a .dead) b (.arr es e md)⟩:=by
 rintro x w ⟨G,X,hM,hd,hsz,ht⟩;replace hM:Mem P C m w G X:=hM;replace ht:∀ t,t < n->V.Is G X (s t) (x.eval (.tmp t)):=ht;have hb:=i8 hb;have hXb:X b=none:=(hM.free b).2 hb;have hab:a≠b:=fun h=>by rw [h,hb] at ha;cases ha
 cases hX:X a with
 | none=>rw [(hM.free a).1 hX] at ha;cases ha
 | some v =>
   have e1:∀ k x,X k=some x->(fun k=>if k=b then some v else X k) k=some x:=fun k x hk=>by
    by_cases h:k=b
    ·rw [h,hXb] at hk;cases hk
    ·simp only [if_neg h];exact hk
   have hmo:∀ k,k≠b->k≠a->upd (upd m a Ob.dead) b (.arr es e md) k=m k:=fun k h1 h2=>by rw [aJ _ _ _ h1,aJ _ _ _ h2]
   have hma:upd (upd m a Ob.dead) b (.arr es e md) a=.dead:=by rw [aJ _ _ _ hab,aE]
   have hmb:upd (upd m a Ob.dead) b (.arr es e md) b=.arr es e md:=aE _ _ _;refine ⟨G,fun k=>if k=b then some v else X k,⟨hM.gle,hM.gold,hM.gok,hM.keeps,?_,?_,?_,?_,?_,?_⟩,hd,hsz,?_⟩
   ·intro k x hk;by_cases h1:k=b
    ·subst h1;simp only [if_pos] at hk;cases hk;simp only [hmb];have:=hM.ob a v hX;rw [ha] at this;exact this
    ·simp only [if_neg h1] at hk;by_cases h2:k=a
     ·subst h2;simp only [hma];trivial
     ·simp only [hmo k h1 h2];have:=hM.ob k x hk;have:=Ob.Ok_ren (q:=fun k=>k) (Y:=fun k=>if k=b then some v else X k) (fun j _ y hy=>e1 j y hy) this
      rwa [Ob.ren_id] at this
   ·intro k;by_cases h1:k=b
    ·subst h1;simp only [hmb,if_true];simp
    ·simp only [if_neg h1];by_cases h2:k=a
     ·subst h2;simp only [hma,hX];simp
     ·simp only [hmo k h1 h2];exact hM.free k
   ·intro k k' x x' bl hk hk' B1 B2;have red:∀ k x,(if k=b then some v else X k)=some x->(upd (upd m a Ob.dead) b (.arr es e md) k).has w x bl->∃ k0,X k0=some x/\(m k0).has w x bl/\((k=b/\k0=a)∨(k≠b/\k≠a/\k0=k)):=by
     intro k x hk hbk;by_cases h1:k=b
     ·subst h1;rw [if_pos rfl] at hk;cases hk;rw [hmb] at hbk;exact ⟨a,hX,by rw [ha];exact hbk,.inl ⟨rfl,rfl⟩⟩
     ·rw [if_neg h1] at hk;by_cases h2:k=a
      ·subst h2;rw [hma] at hbk;exact (Ob.has_dead hbk).elim
      ·rw [hmo k h1 h2] at hbk;exact ⟨k,hk,hbk,.inr ⟨h1,h2,rfl⟩⟩
    obtain ⟨k1,q1,q2,q3⟩:=red k x hk B1;obtain ⟨k2,r1,r2,r3⟩:=red k' x' hk' B2;have:=hM.apart k1 k2 x x' bl q1 r1 q2 r2;rcases q3 with ⟨rfl,rfl⟩ | ⟨h1,h2,rfl⟩<;>rcases r3 with ⟨rfl,rfl⟩ | ⟨h3,h4,rfl⟩
    ·rfl
    ·exact absurd this.symm h4
    ·exact absurd this h2
    ·exact this
   ·intro k x bl hk hbk;by_cases h1:k=b
    ·subst h1;simp only [if_true] at hk;cases hk;simp only [hmb] at hbk;exact hM.mine a v bl hX (by rw [ha];exact hbk)
    ·simp only [if_neg h1] at hk;by_cases h2:k=a
     ·subst h2;simp only [hma] at hbk;exact (Ob.has_dead hbk).elim
     ·simp only [hmo k h1 h2] at hbk;exact hM.mine k x bl hk hbk
   ·intro k x hk;by_cases h1:k=b
    ·subst h1;simp only [if_true] at hk;cases hk;exact hM.cell a v hX
    ·simp only [if_neg h1] at hk;exact hM.cell k x hk
   ·intro k x hk;exact e1 k x (hM.old k x hk)
   ·intro t htn;simp only [upd];split
    ·rename_i hti;subst hti;have:=ht t htn;rw [hs,V.Is,hX] at this;rw [V.Is];simp only [if_true];exact this
    ·exact V.Is.mono (Gle.refl _) (fun k x hk=>e1 k x hk) _ _ (ht t htn)
theorem qA {C:Cx} {c:Code} {Q:Exit->St->Prop} (i a b:Nat) {es:List (List T)} {e:TypeId} {md:Bool} (hs:s i=.ar a) (ha:m a=.arr es e md) (hb:qE (m b)=true) (h:AWP P C n c Q ⟨upd s i (.ar b),upd (upd m a .dead) b (.arr es e md)⟩):AWP P C n c Q ⟨s,m⟩:=lX (zsi hs ha hb) h
end
end Go.Abs
namespace Go.Abs
section
variable {P:Program} {n:Nat}
variable {ops:Array Oper} {KK:List (Nat × Oper × Ev)->St->Prop} {r:List (Oper × Nat)} {acc:List (Nat × Oper × Ev)} {s:Nat->V} {m:Nat->Ob} {d ix:Nat} {ty:_} {pos:_} {after:_} {g:_}
end
end Go.Abs
namespace Go.Abs
section
variable {P:Program} {C:Cx} {n:Nat} {os:Nat->Ob} {K:Exit->St->Prop} {s:Nat->V} {m:Nat->Ob}
theorem Mem.less {w:World} {G:Im} {X:Xm} (h:Mem P C m w G X) (k:Nat) (o':Ob) (hok:∀ x,X k=some x->Ob.Ok P G X w (m k) x->Ob.Ok P G X w o' x) (hblk:∀ x b,o'.has w x b->(m k).has w x b) (hno:o'=.no↔m k=.no):Mem P C (upd m k o') w G X:=by
 have hb:∀ j x b,(upd m k o' j).has w x b->(m j).has w x b:=fun j x b hj=>by
  by_cases h1:j=k
  ·subst h1;rw [aE] at hj;exact hblk x b hj
  ·rwa [aJ _ _ _ h1] at hj
 refine ⟨h.gle,h.gold,h.gok,h.keeps,?_,?_,fun j j' x x' b hx hx' h1 h2=>h.apart j j' x x' b hx hx' (hb j x b h1) (hb j' x' b h2),fun j x b hx h1=>h.mine j x b hx (hb j x b h1),h.cell,h.old⟩
 ·intro j x hx;by_cases h1:j=k
  ·subst h1;rw [aE];exact hok x hx (h.ob j x hx)
  ·rw [aJ _ _ _ h1];exact h.ob j x hx
 ·intro j;by_cases h1:j=k
  ·subst h1;rw [aE,hno];exact h.free j
  ·rw [aJ _ _ _ h1];exact h.free j
theorem zqC {k:Nat} {es:List (List T)} {e:TypeId} (hm:m k=.arr es e true):zqo P C n ⟨s,m⟩ ⟨s,upd m k (.arr es e false)⟩:=by
 rintro x w ⟨G,X,hM,hd,hsz,ht⟩;replace hM:Mem P C m w G X:=hM;cases hX:X k with
 | none=>rw [(hM.free k).1 hX] at hm;cases hm
 | some v =>
   obtain ⟨G',hG,hM'⟩:=hM.freeze hm hX;exact ⟨G',X,hM',hd,hsz,fun t htn=>V.Is.mono hG (Xle.refl X) _ _ (ht t htn)⟩
theorem zpk {c:Code} {Q:Exit->St->Prop} (k:Nat) {es:List (List T)} {e:TypeId} (hm:m k=.arr es e true) (h:AWP P C n c Q ⟨s,upd m k (.arr es e false)⟩):AWP P C n c Q ⟨s,m⟩:=lX (zqC hm) h
end
end Go.Abs
namespace Go.Abs
theorem tU {m:Nat->Ob} {k:Nat} {ks:List Nat} {es:List (List T)} {e:TypeId} {u:List (Nat × Ob)} (h:m k=.arr es e false) (h2:fzU m ks=u):fzU m (k::ks)=u:=by
 rw [fzU,h];exact h2
end Go.Abs
namespace Go.Abs
end Go.Abs
namespace Go.Abs
end Go.Abs
namespace Go.Abs
section
variable {P:Program} {n:Nat}
variable {ops:Array Oper} {KK:List (Nat × Oper × Ev)->St->Prop} {r:List (Oper × Nat)} {acc:List (Nat × Oper × Ev)} {s:Nat->V} {m:Nat->Ob} {d ix:Nat} {ty:_} {pos:_} {after:_} {g:_}
end
end Go.Abs
namespace Go.Abs
end Go.Abs
end
section
namespace Go.Abs
abbrev rI (n:Int):List T:=[.sc (.int .i64 n)]
abbrev rB (n:Int):List T:=[.sc (.int .u8 n)]
abbrev rS (s:ByteArray):List T:=[.sc (.str s)]
def rL {α:Type} (row:α->List T) (l:List α):List T:=[.sl (l.map row)]
theorem rL_eq {α:Type} (row:α->List T) (l:List α):rL row l=[.sl (l.map row)]:=rfl
theorem aB.row_eq (x:aB):x.row=[.sc (.int .i64 (x.kind)),.sc (.str (x.name)),.sc (.int .i64 (x.n)),.sl ((x.scopes).map rI),.sl ((x.kids).map aB.row)]:=by obtain ⟨kind,name,n,scopes,kids⟩:=x;rw [aB.row_mk];rfl
theorem ziB.row_eq (x:ziB):x.row=[.sc (.int .i64 (x.id)),.sc (.int .i64 (x.rule)),.sc (.int .i64 (x.scope)),.sc (.int .i64 (x.use.kind)),.sc (.str (x.use.name)),.sc (.int .i64 (x.use.n)),.sl ((x.use.scopes).map rI),.sl ((x.use.kids).map aB.row),.sc (.int .i64 (x.result.kind)),.sc (.str (x.result.name)),.sc (.int .i64 (x.result.n)),.sl ((x.result.scopes).map rI),.sl ((x.result.kids).map aB.row)]:=by obtain ⟨id,rule,scope,⟨use_kind,use_name,use_n,use_scopes,use_kids⟩,⟨result_kind,result_name,result_n,result_scopes,result_kids⟩⟩:=x;rw [ziB.row_mk];rfl
theorem kH.row_eq (x:kH):x.row=[.sc (.int .i64 (x.kind)),.sc (.int .i64 (x.id)),.sc (.str (x.name)),.sc (.int .i64 (x.n)),.sl ((x.ids).map rI),.sc (.int .i64 (x.data.kind)),.sc (.str (x.data.name)),.sc (.int .i64 (x.data.n)),.sl ((x.data.scopes).map rI),.sl ((x.data.kids).map aB.row),.sl ((x.kids).map kH.row)]:=by obtain ⟨kind,id,name,n,ids,⟨data_kind,data_name,data_n,data_scopes,data_kids⟩,kids⟩:=x;rw [kH.row_mk];rfl
theorem aH.row_eq (x:aH):x.row=[.sc (.str (x.name)),.sl ((x.scopes).map rI),.sc (.int .i64 (x.id))]:=by obtain ⟨name,scopes,id⟩:=x;rw [aH.row_mk];rfl
theorem Hit.row_eq (x:Hit):x.row=[.sc (.int .i64 (x.name.kind)),.sc (.str (x.name.name)),.sc (.int .i64 (x.name.n)),.sl ((x.name.scopes).map rI),.sl ((x.name.kids).map aB.row),.sc (.int .i64 (x.depth)),.sc (.int .i64 (x.one.kind)),.sc (.str (x.one.name)),.sc (.int .i64 (x.one.n)),.sl ((x.one.scopes).map rI),.sl ((x.one.kids).map aB.row),.sl ((x.many).map Hit.row)]:=by obtain ⟨⟨name_kind,name_name,name_n,name_scopes,name_kids⟩,depth,⟨one_kind,one_name,one_n,one_scopes,one_kids⟩,many⟩:=x;rw [Hit.row_mk];rfl
theorem aI.row_eq (x:aI):x.row=[.sc (.int .i64 (x.pattern.kind)),.sc (.str (x.pattern.name)),.sc (.int .i64 (x.pattern.n)),.sl ((x.pattern.scopes).map rI),.sl ((x.pattern.kids).map aB.row),.sc (.int .i64 (x.template.kind)),.sc (.str (x.template.name)),.sc (.int .i64 (x.template.n)),.sl ((x.template.scopes).map rI),.sl ((x.template.kids).map aB.row)]:=by obtain ⟨⟨pattern_kind,pattern_name,pattern_n,pattern_scopes,pattern_kids⟩,⟨template_kind,template_name,template_n,template_scopes,template_kids⟩⟩:=x;rw [aI.row_mk];rfl
theorem eD.row_eq (x:eD):x.row=[.sc (.int .i64 (x.id)),.sl ((x.literals).map aB.row),.sl ((x.rules).map aI.row)]:=by obtain ⟨id,literals,rules⟩:=x;rw [eD.row_mk];rfl
theorem cM.row_eq (x:cM):x.row=[.sl ((x.binds).map aH.row),.sl ((x.macros).map eD.row),.sc (.int .i64 (x.scope)),.sc (.int .i64 (x.id)),.sc (.int .i64 (x.steps))]:=by obtain ⟨binds,macros,scope,id,steps⟩:=x;rw [cM.row_mk];rfl
end Go.Abs
end
section
set_option linter.unusedSimpArgs false
set_option linter.unusedVariables false
namespace Go.Abs
def idx {α:Type} (l:List α) (i:Int):Option α:=bif decide (0<=i) then l[i.toNat]? else none
def zrW (s:ByteArray) (i:Int):Option Int:=bif decide (0<=i)&&decide (i < s.size) then some ((zaV s i.toNat).toNat:Int) else none
def chk {α:Type} (b:Bool) (x:Option α):Option α:=bif b then x else none
abbrev w64 (n:Int):Int:=IntKind.i64.wrap n
abbrev w8 (n:Int):Int:=IntKind.u8.wrap n
def sub {α:Type} (l:List α) (i j:Int):Option (List α):=bif decide (0<=i)&&decide (i<=j)&&decide (j<=l.length) then some ((l.take j.toNat).drop i.toNat) else none
def zrr (a b:ByteArray):Option ByteArray:=bif decide (a.size+b.size<=9223372036854775807) then some (a++b) else none
theorem aA {α β:Type} {x:Option α} {f:α->Option β} {r:β} (h:x.bind f=some r):∃ a,x=some a/\f a=some r:=Option.bind_eq_some_iff.1 h
theorem bI {α:Type} {b:Bool} {x:Option α} {r:α} (h:chk b x=some r):b=true/\x=some r:=by cases b<;>simp_all [chk]
theorem gW {α:Type} {l:List α} {i:Int} {x:α} (h:idx l i=some x):0<=i/\i < (l.length:Int)/\l[i.toNat]?=some x:=by
 unfold idx at h;by_cases h0:0<=i
 ·simp only [h0,decide_true,cond_true] at h;have:=(List.getElem?_eq_some_iff.1 h).1;exact ⟨h0,by omega,h⟩
 ·simp [h0] at h
theorem zhn {α:Type} (row:α->List T) {l:List α} {i:Int} {x:α} (h:idx l i=some x):(l.map row)[i.toNat]?=some (row x):=by
 rw [List.getElem?_map,(gW h).2.2];rfl
theorem zp1 {b:ByteArray} {i y:Int} (h:zrW b i=some y):0<=i/\i < b.size/\y=((zaV b i.toNat).toNat:Int):=by
 unfold zrW at h;by_cases h0:0<=i<;>by_cases h1:i < (b.size:Int)<;>simp [h0,h1] at h;exact ⟨h0,h1,h.symm⟩
theorem zp2 {a b c:ByteArray} (h:zrr a b=some c):a.size+b.size<=9223372036854775807/\c=a++b:=by
 unfold zrr at h;by_cases h0:a.size+b.size<=9223372036854775807<;>simp [h0] at h;exact ⟨h0,h.symm⟩
theorem zmT {α:Type} {l y:List α} {i j:Int} (h:sub l i j=some y):0<=i/\i<=j/\j<=(l.length:Int)/\y=(l.take j.toNat).drop i.toNat:=by
 unfold sub at h;by_cases h0:0<=i<;>by_cases h1:i<=j<;>by_cases h2:j<=(l.length:Int)<;>simp [h0,h1,h2] at h;exact ⟨h0,h1,h2,h.symm⟩
theorem zj0 {v:V} {d:Nat} {k:IntKind} {i:Int} (h:v=.t (.sc (.int k i))) (h0:0<=i):bnd d (some v)=some i.toNat:=by subst h;simp [bnd,h0]
theorem zjv {α:Type} (row:α->List T) {P:Program} {m:Nat->Ob} {t e sz:Nat} {v:V} {l0:List α} {lo hi:Option V} {i j:Int} {u:List (Nat × Ob)} (hsz:∀ y,(row y).length=sz) (hu:P.underlying t=some (.slice e)) (he:zcw P t=some (e,sz)) (hv:toT m v=some (.sl (l0.map row)))
  (hl:bnd 0 lo=some i.toNat) (hh:bnd l0.length hi=some j.toNat) (h1:i<=j) (h2:j<=(l0.length:Int)) (hfu:fzU m (fz v)=u):zi2 P m t v lo hi=some (.t (.sl (((l0.take j.toNat).drop i.toNat).map row)),u):=by
 simp only [zi2,hu,he,hv,hl,List.length_map,hh,hfu];rw [if_pos ⟨by omega,by omega,by simp [hsz]⟩,List.map_drop,List.map_take]
theorem zpn {α:Type} {row:α->List T} {sz:Nat} (h:∀ y,(row y).length=sz) {l:List α}:((l.map row).all (fun r=>decide (r.length=sz)))=true:=by
 simp [h]
section
variable {P:Program} {C:Cx} {n:Nat} {ops:Array Oper} {K:List (Nat × Oper × Ev)->St->Prop} {r:List (Oper × Nat)} {acc:List (Nat × Oper × Ev)} {ix:Nat} {s:Nat->V} {m:Nat->Ob} {d:Tmp} {ty:TypeId} {pos:String} {after:Array Edge} {g:Option (Nat × Bool)}
theorem cC {x:Operand} {v:V} {fp:List Nat}  (hr:Run P n ops K r ((ix,⟨some d,.move x,ty,pos,after,g⟩,⟨v,[],fp⟩)::acc) ⟨upd s d v,m⟩) (hg:aL n ops ⟨some d,.move x,ty,pos,after,g⟩ ⟨s,m⟩=some true:=by rfl) (hx:ev n s x=v:=by conv=>lhs;whnf) (hfp:jI (jT ⟨some d,.move x,ty,pos,after,g⟩) (ev n s) (.move x)=fp:=by rfl):Run P n ops K ((⟨some d,.move x,ty,pos,after,g⟩,ix)::r) acc ⟨s,m⟩:=ztf hg hx hfp hr
theorem zfO {x:Operand} {v:V} {fp:List Nat}  (hr:Run P n ops K r ((ix,⟨some d,.assign x,ty,pos,after,g⟩,⟨v,[],fp⟩)::acc) ⟨upd s d v,m⟩) (hg:aL n ops ⟨some d,.assign x,ty,pos,after,g⟩ ⟨s,m⟩=some true:=by rfl) (hx:ev n s x=v:=by conv=>lhs;whnf) (hfp:jI (jT ⟨some d,.assign x,ty,pos,after,g⟩) (ev n s) (.assign x)=fp:=by rfl):Run P n ops K ((⟨some d,.assign x,ty,pos,after,g⟩,ix)::r) acc ⟨s,m⟩:=zqO hg hx hfp hr
theorem n8 {x a b:Operand} {v:V} {fp:List Nat}  (hr:Run P n ops K r ((ix,⟨some d,.pick x a b,ty,pos,after,g⟩,⟨v,[],fp⟩)::acc) ⟨upd s d v,m⟩) (hg:aL n ops ⟨some d,.pick x a b,ty,pos,after,g⟩ ⟨s,m⟩=some true:=by rfl) (hx:ev n s x=.t (.sc (.bool true)):=by conv=>lhs;whnf) (hv:ev n s a=v:=by conv=>lhs;whnf) (hfp:jI (jT ⟨some d,.pick x a b,ty,pos,after,g⟩) (ev n s) (.pick x a b)=fp:=by rfl):Run P n ops K ((⟨some d,.pick x a b,ty,pos,after,g⟩,ix)::r) acc ⟨s,m⟩:=zrD (c:=true) hg hx hv hfp hr
theorem qW {x a b:Operand} {v:V} {fp:List Nat}  (hr:Run P n ops K r ((ix,⟨some d,.pick x a b,ty,pos,after,g⟩,⟨v,[],fp⟩)::acc) ⟨upd s d v,m⟩) (hg:aL n ops ⟨some d,.pick x a b,ty,pos,after,g⟩ ⟨s,m⟩=some true:=by rfl) (hx:ev n s x=.t (.sc (.bool false)):=by conv=>lhs;whnf) (hv:ev n s b=v:=by conv=>lhs;whnf) (hfp:jI (jT ⟨some d,.pick x a b,ty,pos,after,g⟩) (ev n s) (.pick x a b)=fp:=by rfl):Run P n ops K ((⟨some d,.pick x a b,ty,pos,after,g⟩,ix)::r) acc ⟨s,m⟩:=zrD (c:=false) hg hx hv hfp hr
theorem fT {t:TypeId} {zs:List V} {fp:List Nat} (hz:mG P t=some zs) (hr:Run P n ops K r ((ix,⟨some d,.alloc t,ty,pos,after,g⟩,⟨.rf d 0,[(d,.box zs)],fp⟩)::acc) ⟨upd s d (.rf d 0),upd m d (.box zs)⟩) (hg:aL n ops ⟨some d,.alloc t,ty,pos,after,g⟩ ⟨s,m⟩=some true:=by rfl) (hid:qE (m d)=true:=by rfl) (hfp:jI (jT ⟨some d,.alloc t,ty,pos,after,g⟩) (ev n s) (.alloc t)=fp:=by rfl):Run P n ops K ((⟨some d,.alloc t,ty,pos,after,g⟩,ix)::r) acc ⟨s,m⟩:=zsq hg hz hid hfp hr
theorem zlI {t:TypeId} {x:Operand} {v:V} {cs:List V} {fp:List Nat}  (hr:Run P n ops K r ((ix,⟨some d,.box t x,ty,pos,after,g⟩,⟨.rf d 0,[(d,.box cs)],fp⟩)::acc) ⟨upd s d (.rf d 0),upd m d (.box cs)⟩) (hg:aL n ops ⟨some d,.box t x,ty,pos,after,g⟩ ⟨s,m⟩=some true:=by rfl) (hx:ev n s x=v:=by conv=>lhs;whnf) (hb:xC v=true:=by rfl) (hc:bZ v=cs:=by conv=>lhs;whnf) (hid:qE (m d)=true:=by rfl) (hfp:jI (jT ⟨some d,.box t x,ty,pos,after,g⟩) (ev n s) (.box t x)=fp:=by rfl):Run P n ops K ((⟨some d,.box t x,ty,pos,after,g⟩,ix)::r) acc ⟨s,m⟩:=r_box hg hx hb hc hid hfp hr
theorem b7 {t:TypeId} {x:Operand} {p v:V} {cs:List V} {fp:List Nat} (ha:n9 P t=some false) (hr:Run P n ops K r ((ix,⟨some d,.load t x,ty,pos,after,g⟩,⟨v,[],fp⟩)::acc) ⟨upd s d v,m⟩) (hg:aL n ops ⟨some d,.load t x,ty,pos,after,g⟩ ⟨s,m⟩=some true:=by rfl) (hx:ev n s x=p:=by conv=>lhs;whnf) (hc:oD m p=some cs:=by conv=>lhs;whnf) (hv:cs.head?=some v:=by conv=>lhs;whnf) (hfp:jI (jT ⟨some d,.load t x,ty,pos,after,g⟩) (ev n s) (.load t x)=fp:=by rfl):Run P n ops K ((⟨some d,.load t x,ty,pos,after,g⟩,ix)::r) acc ⟨s,m⟩:=zo6 hg ha hx hc hv hfp hr
theorem cA {t:TypeId} {x:Operand} {p:V} {cs:List V} {k:Nat} {fp:List Nat} (ha:n9 P t=some true) (hs:kG P t=some k) (hr:Run P n ops K r ((ix,⟨some d,.load t x,ty,pos,after,g⟩,⟨.ag cs,[],fp⟩)::acc) ⟨upd s d (.ag cs),m⟩) (hg:aL n ops ⟨some d,.load t x,ty,pos,after,g⟩ ⟨s,m⟩=some true:=by rfl) (hx:ev n s x=p:=by conv=>lhs;whnf) (hc:oD m p=some cs:=by conv=>lhs;whnf) (hk:cs.length=k:=by rfl) (hfp:jI (jT ⟨some d,.load t x,ty,pos,after,g⟩) (ev n s) (.load t x)=fp:=by rfl):Run P n ops K ((⟨some d,.load t x,ty,pos,after,g⟩,ix)::r) acc ⟨s,m⟩:=zlU hg ha hs hx hc (by omega) (zqE (by omega)) hfp hr
theorem bY {t:TypeId} {x:Operand} {p:V} {cs vs:List V} {k:Nat} {fp:List Nat} (ha:n9 P t=some true) (hs:kG P t=some k) (hr:Run P n ops K r ((ix,⟨some d,.load t x,ty,pos,after,g⟩,⟨.ag vs,[],fp⟩)::acc) ⟨upd s d (.ag vs),m⟩) (hg:aL n ops ⟨some d,.load t x,ty,pos,after,g⟩ ⟨s,m⟩=some true:=by rfl) (hx:ev n s x=p:=by conv=>lhs;whnf) (hc:oD m p=some cs:=by conv=>lhs;whnf) (hk:k<=cs.length:=by simp only [List.take_succ_cons,List.take_zero,List.drop_succ_cons,List.drop_zero,List.take_nil,List.drop_nil,List.nil_append,List.cons_append,List.append_nil,List.length_cons,List.length_nil,List.head?_cons,List.map_cons,List.map_nil,Nat.reduceAdd,Nat.zero_add,List.length_map];omega) (hv:cs.take k=vs:=by simp only [List.take_succ_cons,List.take_zero,List.drop_succ_cons,List.drop_zero,List.take_nil,List.drop_nil,List.nil_append,List.cons_append,List.append_nil,List.length_cons,List.length_nil,List.head?_cons,List.map_cons,List.map_nil,Nat.reduceAdd,Nat.zero_add,List.length_map];rfl) (hfp:jI (jT ⟨some d,.load t x,ty,pos,after,g⟩) (ev n s) (.load t x)=fp:=by rfl):Run P n ops K ((⟨some d,.load t x,ty,pos,after,g⟩,ix)::r) acc ⟨s,m⟩:=zlU hg ha hs hx hc hk hv hfp hr
theorem lI {t:TypeId} {p x:Operand} {j k:Nat} {v:V} {cs ws:List V} {fp:List Nat} (hs:kG P t=some k) (hr:Run P n ops K r ((ix,⟨none,.store t p x,ty,pos,after,g⟩,⟨.jk,[(j,.box ws)],fp⟩)::acc) ⟨s,upd m j (.box ws)⟩) (hg:aL n ops ⟨none,.store t p x,ty,pos,after,g⟩ ⟨s,m⟩=some true:=by rfl) (hp:ev n s p=.rf j 0:=by conv=>lhs;whnf) (hm:m j=.box cs:=by conv=>lhs;whnf) (hx:ev n s x=v:=by conv=>lhs;whnf) (hw:bZ v=ws:=by conv=>lhs;whnf) (ho:y6 ws=true:=by rfl) (hl:ws.length=k:=by rfl) (hl2:cs.length=k:=by rfl) (hfp:jI (jT ⟨none,.store t p x,ty,pos,after,g⟩) (ev n s) (.store t p x)=fp:=by rfl):Run P n ops K ((⟨none,.store t p x,ty,pos,after,g⟩,ix)::r) acc ⟨s,m⟩:=zmZ hg hp hm hx hw ho (by rw [hl];exact hs) (by omega) (znH (by omega)) hfp hr
theorem wR {t:TypeId} {p x:Operand} {j k off:Nat} {v:V} {cs ws cs':List V} {fp:List Nat} (hs:kG P t=some k) (hr:Run P n ops K r ((ix,⟨none,.store t p x,ty,pos,after,g⟩,⟨.jk,[(j,.box cs')],fp⟩)::acc) ⟨s,upd m j (.box cs')⟩) (hg:aL n ops ⟨none,.store t p x,ty,pos,after,g⟩ ⟨s,m⟩=some true:=by rfl) (hp:ev n s p=.rf j off:=by conv=>lhs;whnf) (hm:m j=.box cs:=by conv=>lhs;whnf) (hx:ev n s x=v:=by conv=>lhs;whnf) (hw:bZ v=ws:=by conv=>lhs;whnf) (ho:y6 ws=true:=by rfl) (hl:ws.length=k:=by rfl) (hl2:off+ws.length<=cs.length:=by simp only [List.take_succ_cons,List.take_zero,List.drop_succ_cons,List.drop_zero,List.take_nil,List.drop_nil,List.nil_append,List.cons_append,List.append_nil,List.length_cons,List.length_nil,List.head?_cons,List.map_cons,List.map_nil,Nat.reduceAdd,Nat.zero_add,List.length_map];omega) (hn:cK cs off ws=cs':=by simp only [cK,List.take_succ_cons,List.take_zero,List.drop_succ_cons,List.drop_zero,List.take_nil,List.drop_nil,List.nil_append,List.cons_append,List.append_nil,List.length_cons,List.length_nil,List.head?_cons,List.map_cons,List.map_nil,Nat.reduceAdd,Nat.zero_add,List.length_map];rfl) (hfp:jI (jT ⟨none,.store t p x,ty,pos,after,g⟩) (ev n s) (.store t p x)=fp:=by rfl):Run P n ops K ((⟨none,.store t p x,ty,pos,after,g⟩,ix)::r) acc ⟨s,m⟩:=zmZ hg hp hm hx hw ho (by rw [hl];exact hs) hl2 hn hfp hr
theorem gP {t:TypeId} {x:Operand} {f off:Nat} {ft:TypeId} {p v:V} {fp:List Nat} (hf:jJ P t f=some (off,ft)) (hr:Run P n ops K r ((ix,⟨some d,.fieldAddr t x f,ty,pos,after,g⟩,⟨v,[],fp⟩)::acc) ⟨upd s d v,m⟩) (hg:aL n ops ⟨some d,.fieldAddr t x f,ty,pos,after,g⟩ ⟨s,m⟩=some true:=by rfl) (hx:ev n s x=p:=by conv=>lhs;whnf) (hv:zkA off p=some v:=by first | (conv=>lhs;whnf) | rfl) (hfp:jI (jT ⟨some d,.fieldAddr t x f,ty,pos,after,g⟩) (ev n s) (.fieldAddr t x f)=fp:=by rfl):Run P n ops K ((⟨some d,.fieldAddr t x f,ty,pos,after,g⟩,ix)::r) acc ⟨s,m⟩:=zmc hg hf hx hv hfp hr
theorem aO {α:Type} {l:List α} {y:α} {cs:List T} {t:TypeId} {x i:Operand} {e:TypeId} {sz:Nat} {k:IntKind} {j:Int} {fp:List Nat} (row:α->List T) (hix:idx l j=some y) (hrow:row y=cs) (he:zcw P t=some (e,sz)) (hr:Run P n ops K r ((ix,⟨some d,.indexAddr t x i,ty,pos,after,g⟩,⟨.pe cs,[],fp⟩)::acc) ⟨upd s d (.pe cs),m⟩) (hg:aL n ops ⟨some d,.indexAddr t x i,ty,pos,after,g⟩ ⟨s,m⟩=some true:=by rfl) (hx:ev n s x=.t (.sl (l.map row)):=by conv=>lhs;whnf) (hi:ev n s i=.t (.sc (.int k j)):=by conv=>lhs;whnf) (hl:cs.length=sz:=by rfl) (hfp:jI (jT ⟨some d,.indexAddr t x i,ty,pos,after,g⟩) (ev n s) (.indexAddr t x i)=fp:=by rfl):Run P n ops K ((⟨some d,.indexAddr t x i,ty,pos,after,g⟩,ix)::r) acc ⟨s,m⟩:=zab hg he hx hi (gW hix).1 (by simp only [zaT,zhn row hix,hrow,hl,if_true]) hfp hr
theorem yY {α:Type} {l:List α} {y:α} {t:TypeId} {x i:Operand} {e e':TypeId} {sz q:Nat} {md:Bool} {k:IntKind} {j:Int} {fp:List Nat} (row:α->List T) (hix:idx l j=some y) (he:zcw P t=some (e,sz)) (hr:Run P n ops K r ((ix,⟨some d,.indexAddr t x i,ty,pos,after,g⟩,⟨.re q j.toNat sz 0,[],fp⟩)::acc) ⟨upd s d (.re q j.toNat sz 0),m⟩) (hg:aL n ops ⟨some d,.indexAddr t x i,ty,pos,after,g⟩ ⟨s,m⟩=some true:=by rfl) (hx:ev n s x=.ar q:=by conv=>lhs;whnf) (hm:m q=.arr (l.map row) e' md:=by conv=>lhs;whnf) (hi:ev n s i=.t (.sc (.int k j)):=by conv=>lhs;whnf) (hfp:jI (jT ⟨some d,.indexAddr t x i,ty,pos,after,g⟩) (ev n s) (.indexAddr t x i)=fp:=by rfl):Run P n ops K ((⟨some d,.indexAddr t x i,ty,pos,after,g⟩,ix)::r) acc ⟨s,m⟩:=zab hg he hx hi (gW hix).1 (by have:=gW hix;simp only [zaT,hm,List.length_map];rw [if_pos (by omega)]) hfp hr
theorem zqq {α:Type} {l:List α} {y:α} {cs:List T} {t e':TypeId} {x:Operand} {v:T} {q sz off:Nat} {md:Bool} {j:Int} {fp:List Nat} (row:α->List T) (hix:idx l j=some y) (hrow:row y=cs) (ha:n9 P t=some false) (hr:Run P n ops K r ((ix,⟨some d,.load t x,ty,pos,after,g⟩,⟨.t v,[],fp⟩)::acc) ⟨upd s d (.t v),m⟩) (hg:aL n ops ⟨some d,.load t x,ty,pos,after,g⟩ ⟨s,m⟩=some true:=by rfl) (hx:ev n s x=.re q j.toNat sz off:=by conv=>lhs;whnf) (hm:m q=.arr (l.map row) e' md:=by conv=>lhs;whnf) (hl:cs.length=sz:=by rfl) (hv:(cs.drop off).head?=some v:=by conv=>lhs;whnf) (hfp:jI (jT ⟨some d,.load t x,ty,pos,after,g⟩) (ev n s) (.load t x)=fp:=by rfl):Run P n ops K ((⟨some d,.load t x,ty,pos,after,g⟩,ix)::r) acc ⟨s,m⟩:=zo6 (cs:=(cs.drop off).map V.t) hg ha hx (by simp only [oD,hm,zhn row hix,hrow,hl,if_true]) (by rw [List.head?_map,hv];rfl) hfp hr
theorem zno {α:Type} {l:List α} {y:α} {cs:List T} {t e':TypeId} {x:Operand} {vs:List V} {q sz off k:Nat} {md:Bool} {j:Int} {fp:List Nat} (row:α->List T) (hix:idx l j=some y) (hrow:row y=cs) (ha:n9 P t=some true) (hs:kG P t=some k) (hr:Run P n ops K r ((ix,⟨some d,.load t x,ty,pos,after,g⟩,⟨.ag vs,[],fp⟩)::acc) ⟨upd s d (.ag vs),m⟩) (hg:aL n ops ⟨some d,.load t x,ty,pos,after,g⟩ ⟨s,m⟩=some true:=by rfl) (hx:ev n s x=.re q j.toNat sz off:=by conv=>lhs;whnf) (hm:m q=.arr (l.map row) e' md:=by conv=>lhs;whnf) (hl:cs.length=sz:=by rfl) (hk:k<=((cs.drop off).map V.t).length:=by simp only [List.take_succ_cons,List.take_zero,List.drop_succ_cons,List.drop_zero,List.take_nil,List.drop_nil,List.nil_append,List.cons_append,List.append_nil,List.length_cons,List.length_nil,List.head?_cons,List.map_cons,List.map_nil,Nat.reduceAdd,Nat.zero_add,List.length_map];omega) (hv:((cs.drop off).map V.t).take k=vs:=by simp only [List.take_succ_cons,List.take_zero,List.drop_succ_cons,List.drop_zero,List.take_nil,List.drop_nil,List.nil_append,List.cons_append,List.append_nil,List.length_cons,List.length_nil,List.head?_cons,List.map_cons,List.map_nil,Nat.reduceAdd,Nat.zero_add,List.length_map];rfl) (hfp:jI (jT ⟨some d,.load t x,ty,pos,after,g⟩) (ev n s) (.load t x)=fp:=by rfl):Run P n ops K ((⟨some d,.load t x,ty,pos,after,g⟩,ix)::r) acc ⟨s,m⟩:=zlU (cs:=(cs.drop off).map V.t) hg ha hs hx (by simp only [oD,hm,zhn row hix,hrow,hl,if_true]) hk hv hfp hr
theorem zs1 {b:ByteArray} {y:Int} {t:TypeId} {x i:Operand} {k:IntKind} {j:Int} {fp:List Nat} (hix:zrW b j=some y) (he:P.underlying t=some .string) (hr:Run P n ops K r ((ix,⟨some d,.index t x i,ty,pos,after,g⟩,⟨.t (.sc (.int .u8 y)),[],fp⟩)::acc) ⟨upd s d (.t (.sc (.int .u8 y))),m⟩) (hg:aL n ops ⟨some d,.index t x i,ty,pos,after,g⟩ ⟨s,m⟩=some true:=by rfl) (hx:ev n s x=.t (.sc (.str b)):=by conv=>lhs;whnf) (hi:ev n s i=.t (.sc (.int k j)):=by conv=>lhs;whnf) (hfp:jI (jT ⟨some d,.index t x i,ty,pos,after,g⟩) (ev n s) (.index t x i)=fp:=by rfl):Run P n ops K ((⟨some d,.index t x i,ty,pos,after,g⟩,ix)::r) acc ⟨s,m⟩:=by
 obtain ⟨h0,h1,rfl⟩:=zp1 hix;exact zqN hg he hx hi h0 h1 hfp hr
theorem bA {α:Type} {l:List α} {row:α->List T} {t e:TypeId} {x:Operand} {fp:List Nat} (ht:P.underlying t=some (.slice e)) (hr:Run P n ops K r ((ix,⟨some d,.call { callee:=.builtin .len,args:=#[x],argTypes:=#[t] },ty,pos,after,g⟩,⟨.t (.sc (.int .i64 (l.length:Nat))),[],fp⟩)::acc) ⟨upd s d (.t (.sc (.int .i64 (l.length:Nat)))),m⟩) (hg:aL n ops ⟨some d,.call { callee:=.builtin .len,args:=#[x],argTypes:=#[t] },ty,pos,after,g⟩ ⟨s,m⟩=some true:=by rfl) (hx:ev n s x=.t (.sl (l.map row)):=by conv=>lhs;whnf) (hfp:jI (jT ⟨some d,.call { callee:=.builtin .len,args:=#[x],argTypes:=#[t] },ty,pos,after,g⟩) (ev n s) (.call { callee:=.builtin .len,args:=#[x],argTypes:=#[t] })=fp:=by rfl):Run P n ops K ((⟨some d,.call { callee:=.builtin .len,args:=#[x],argTypes:=#[t] },ty,pos,after,g⟩,ix)::r) acc ⟨s,m⟩:=zr6 hg ht hx (by simp only [zmO,List.length_map]) hfp hr
theorem y5 {α:Type} {l:List α} {row:α->List T} {t e e':TypeId} {md:Bool} {q:Nat} {x:Operand} {fp:List Nat} (ht:P.underlying t=some (.slice e)) (hr:Run P n ops K r ((ix,⟨some d,.call { callee:=.builtin .len,args:=#[x],argTypes:=#[t] },ty,pos,after,g⟩,⟨.t (.sc (.int .i64 (l.length:Nat))),[],fp⟩)::acc) ⟨upd s d (.t (.sc (.int .i64 (l.length:Nat)))),m⟩) (hg:aL n ops ⟨some d,.call { callee:=.builtin .len,args:=#[x],argTypes:=#[t] },ty,pos,after,g⟩ ⟨s,m⟩=some true:=by rfl) (hx:ev n s x=.ar q:=by conv=>lhs;whnf) (hm:m q=.arr (l.map row) e' md:=by conv=>lhs;whnf) (hfp:jI (jT ⟨some d,.call { callee:=.builtin .len,args:=#[x],argTypes:=#[t] },ty,pos,after,g⟩) (ev n s) (.call { callee:=.builtin .len,args:=#[x],argTypes:=#[t] })=fp:=by rfl):Run P n ops K ((⟨some d,.call { callee:=.builtin .len,args:=#[x],argTypes:=#[t] },ty,pos,after,g⟩,ix)::r) acc ⟨s,m⟩:=zr6 hg ht hx (by simp only [zmO,hm,List.length_map]) hfp hr
theorem zdu {b:ByteArray} {t:TypeId} {x:Operand} {fp:List Nat} (ht:P.underlying t=some .string) (hr:Run P n ops K r ((ix,⟨some d,.call { callee:=.builtin .len,args:=#[x],argTypes:=#[t] },ty,pos,after,g⟩,⟨.t (.sc (.int .i64 (b.size:Nat))),[],fp⟩)::acc) ⟨upd s d (.t (.sc (.int .i64 (b.size:Nat)))),m⟩) (hg:aL n ops ⟨some d,.call { callee:=.builtin .len,args:=#[x],argTypes:=#[t] },ty,pos,after,g⟩ ⟨s,m⟩=some true:=by rfl) (hx:ev n s x=.t (.sc (.str b)):=by conv=>lhs;whnf) (hfp:jI (jT ⟨some d,.call { callee:=.builtin .len,args:=#[x],argTypes:=#[t] },ty,pos,after,g⟩) (ev n s) (.call { callee:=.builtin .len,args:=#[x],argTypes:=#[t] })=fp:=by rfl):Run P n ops K ((⟨some d,.call { callee:=.builtin .len,args:=#[x],argTypes:=#[t] },ty,pos,after,g⟩,ix)::r) acc ⟨s,m⟩:=zth hg ht hx hfp hr
theorem aQ {t t':TypeId} {x y:Operand} {k:IntKind} {a b:Int} {c:Int} {fp:List Nat} (hc:k.wrap (a+b)=c) (hr:Run P n ops K r ((ix,⟨some d,.binOp .add t x y t',ty,pos,after,g⟩,⟨.t (.sc (.int k c)),[],fp⟩)::acc) ⟨upd s d (.t (.sc (.int k c))),m⟩) (hg:aL n ops ⟨some d,.binOp .add t x y t',ty,pos,after,g⟩ ⟨s,m⟩=some true:=by rfl) (hx:ev n s x=.t (.sc (.int k a)):=by conv=>lhs;whnf) (hy:ev n s y=.t (.sc (.int k b)):=by conv=>lhs;whnf) (hfp:jI (jT ⟨some d,.binOp .add t x y t',ty,pos,after,g⟩) (ev n s) (.binOp .add t x y t')=fp:=by rfl):Run P n ops K ((⟨some d,.binOp .add t x y t',ty,pos,after,g⟩,ix)::r) acc ⟨s,m⟩:=zet hg hx hy (by simp [zjz,hc]) hfp hr
theorem zA {t t':TypeId} {x y:Operand} {k:IntKind} {a b:Int} {c:Int} {fp:List Nat} (hc:k.wrap (a-b)=c) (hr:Run P n ops K r ((ix,⟨some d,.binOp .sub t x y t',ty,pos,after,g⟩,⟨.t (.sc (.int k c)),[],fp⟩)::acc) ⟨upd s d (.t (.sc (.int k c))),m⟩) (hg:aL n ops ⟨some d,.binOp .sub t x y t',ty,pos,after,g⟩ ⟨s,m⟩=some true:=by rfl) (hx:ev n s x=.t (.sc (.int k a)):=by conv=>lhs;whnf) (hy:ev n s y=.t (.sc (.int k b)):=by conv=>lhs;whnf) (hfp:jI (jT ⟨some d,.binOp .sub t x y t',ty,pos,after,g⟩) (ev n s) (.binOp .sub t x y t')=fp:=by rfl):Run P n ops K ((⟨some d,.binOp .sub t x y t',ty,pos,after,g⟩,ix)::r) acc ⟨s,m⟩:=zet hg hx hy (by simp [zjz,hc]) hfp hr
theorem s_quo {t t':TypeId} {x y:Operand} {k:IntKind} {a b:Int} {c:Int} {fp:List Nat} (hc:k.wrap (a.tdiv b)=c) (hr:Run P n ops K r ((ix,⟨some d,.binOp .quo t x y t',ty,pos,after,g⟩,⟨.t (.sc (.int k c)),[],fp⟩)::acc) ⟨upd s d (.t (.sc (.int k c))),m⟩) (hg:aL n ops ⟨some d,.binOp .quo t x y t',ty,pos,after,g⟩ ⟨s,m⟩=some true:=by rfl) (hx:ev n s x=.t (.sc (.int k a)):=by conv=>lhs;whnf) (hy:ev n s y=.t (.sc (.int k b)):=by conv=>lhs;whnf) (h0:decide (b=0)=false:=by decide) (hfp:jI (jT ⟨some d,.binOp .quo t x y t',ty,pos,after,g⟩) (ev n s) (.binOp .quo t x y t')=fp:=by rfl):Run P n ops K ((⟨some d,.binOp .quo t x y t',ty,pos,after,g⟩,ix)::r) acc ⟨s,m⟩:=zet hg hx hy (by simp [zjz,hc];simpa using h0) hfp hr
theorem s_rem {t t':TypeId} {x y:Operand} {k:IntKind} {a b:Int} {fp:List Nat}  (hr:Run P n ops K r ((ix,⟨some d,.binOp .rem t x y t',ty,pos,after,g⟩,⟨.t (.sc (.int k (a.tmod b))),[],fp⟩)::acc) ⟨upd s d (.t (.sc (.int k (a.tmod b)))),m⟩) (hg:aL n ops ⟨some d,.binOp .rem t x y t',ty,pos,after,g⟩ ⟨s,m⟩=some true:=by rfl) (hx:ev n s x=.t (.sc (.int k a)):=by conv=>lhs;whnf) (hy:ev n s y=.t (.sc (.int k b)):=by conv=>lhs;whnf) (h0:decide (b=0)=false:=by decide) (hfp:jI (jT ⟨some d,.binOp .rem t x y t',ty,pos,after,g⟩) (ev n s) (.binOp .rem t x y t')=fp:=by rfl):Run P n ops K ((⟨some d,.binOp .rem t x y t',ty,pos,after,g⟩,ix)::r) acc ⟨s,m⟩:=zet hg hx hy (by simp [zjz];simpa using h0) hfp hr
theorem zjy {t t':TypeId} {x y:Operand} {k:IntKind} {a b:Int} {fp:List Nat}  (hr:Run P n ops K r ((ix,⟨some d,.binOp .eql t x y t',ty,pos,after,g⟩,⟨.t (.sc (.bool (decide (a=b)))),[],fp⟩)::acc) ⟨upd s d (.t (.sc (.bool (decide (a=b))))),m⟩) (hg:aL n ops ⟨some d,.binOp .eql t x y t',ty,pos,after,g⟩ ⟨s,m⟩=some true:=by rfl) (hx:ev n s x=.t (.sc (.int k a)):=by conv=>lhs;whnf) (hy:ev n s y=.t (.sc (.int k b)):=by conv=>lhs;whnf) (hfp:jI (jT ⟨some d,.binOp .eql t x y t',ty,pos,after,g⟩) (ev n s) (.binOp .eql t x y t')=fp:=by rfl):Run P n ops K ((⟨some d,.binOp .eql t x y t',ty,pos,after,g⟩,ix)::r) acc ⟨s,m⟩:=zet hg hx hy (by simp only [zjz,if_true]) hfp hr
theorem zkl {t t':TypeId} {x y:Operand} {k:IntKind} {a b:Int} {fp:List Nat}  (hr:Run P n ops K r ((ix,⟨some d,.binOp .neq t x y t',ty,pos,after,g⟩,⟨.t (.sc (.bool (decide (a≠b)))),[],fp⟩)::acc) ⟨upd s d (.t (.sc (.bool (decide (a≠b))))),m⟩) (hg:aL n ops ⟨some d,.binOp .neq t x y t',ty,pos,after,g⟩ ⟨s,m⟩=some true:=by rfl) (hx:ev n s x=.t (.sc (.int k a)):=by conv=>lhs;whnf) (hy:ev n s y=.t (.sc (.int k b)):=by conv=>lhs;whnf) (hfp:jI (jT ⟨some d,.binOp .neq t x y t',ty,pos,after,g⟩) (ev n s) (.binOp .neq t x y t')=fp:=by rfl):Run P n ops K ((⟨some d,.binOp .neq t x y t',ty,pos,after,g⟩,ix)::r) acc ⟨s,m⟩:=zet hg hx hy (by simp only [zjz,if_true]) hfp hr
theorem zqh {t t':TypeId} {x y:Operand} {k:IntKind} {a b:Int} {fp:List Nat}  (hr:Run P n ops K r ((ix,⟨some d,.binOp .lss t x y t',ty,pos,after,g⟩,⟨.t (.sc (.bool (decide (a < b)))),[],fp⟩)::acc) ⟨upd s d (.t (.sc (.bool (decide (a < b))))),m⟩) (hg:aL n ops ⟨some d,.binOp .lss t x y t',ty,pos,after,g⟩ ⟨s,m⟩=some true:=by rfl) (hx:ev n s x=.t (.sc (.int k a)):=by conv=>lhs;whnf) (hy:ev n s y=.t (.sc (.int k b)):=by conv=>lhs;whnf) (hfp:jI (jT ⟨some d,.binOp .lss t x y t',ty,pos,after,g⟩) (ev n s) (.binOp .lss t x y t')=fp:=by rfl):Run P n ops K ((⟨some d,.binOp .lss t x y t',ty,pos,after,g⟩,ix)::r) acc ⟨s,m⟩:=zet hg hx hy (by simp only [zjz,if_true]) hfp hr
theorem zlG {t t':TypeId} {x y:Operand} {k:IntKind} {a b:Int} {fp:List Nat}  (hr:Run P n ops K r ((ix,⟨some d,.binOp .leq t x y t',ty,pos,after,g⟩,⟨.t (.sc (.bool (decide (a<=b)))),[],fp⟩)::acc) ⟨upd s d (.t (.sc (.bool (decide (a<=b))))),m⟩) (hg:aL n ops ⟨some d,.binOp .leq t x y t',ty,pos,after,g⟩ ⟨s,m⟩=some true:=by rfl) (hx:ev n s x=.t (.sc (.int k a)):=by conv=>lhs;whnf) (hy:ev n s y=.t (.sc (.int k b)):=by conv=>lhs;whnf) (hfp:jI (jT ⟨some d,.binOp .leq t x y t',ty,pos,after,g⟩) (ev n s) (.binOp .leq t x y t')=fp:=by rfl):Run P n ops K ((⟨some d,.binOp .leq t x y t',ty,pos,after,g⟩,ix)::r) acc ⟨s,m⟩:=zet hg hx hy (by simp only [zjz,if_true]) hfp hr
theorem zh7 {t t':TypeId} {x y:Operand} {k:IntKind} {a b:Int} {fp:List Nat}  (hr:Run P n ops K r ((ix,⟨some d,.binOp .gtr t x y t',ty,pos,after,g⟩,⟨.t (.sc (.bool (decide (b < a)))),[],fp⟩)::acc) ⟨upd s d (.t (.sc (.bool (decide (b < a))))),m⟩) (hg:aL n ops ⟨some d,.binOp .gtr t x y t',ty,pos,after,g⟩ ⟨s,m⟩=some true:=by rfl) (hx:ev n s x=.t (.sc (.int k a)):=by conv=>lhs;whnf) (hy:ev n s y=.t (.sc (.int k b)):=by conv=>lhs;whnf) (hfp:jI (jT ⟨some d,.binOp .gtr t x y t',ty,pos,after,g⟩) (ev n s) (.binOp .gtr t x y t')=fp:=by rfl):Run P n ops K ((⟨some d,.binOp .gtr t x y t',ty,pos,after,g⟩,ix)::r) acc ⟨s,m⟩:=zet hg hx hy (by simp only [zjz,if_true]) hfp hr
theorem zku {t t':TypeId} {x y:Operand} {k:IntKind} {a b:Int} {fp:List Nat}  (hr:Run P n ops K r ((ix,⟨some d,.binOp .geq t x y t',ty,pos,after,g⟩,⟨.t (.sc (.bool (decide (b<=a)))),[],fp⟩)::acc) ⟨upd s d (.t (.sc (.bool (decide (b<=a))))),m⟩) (hg:aL n ops ⟨some d,.binOp .geq t x y t',ty,pos,after,g⟩ ⟨s,m⟩=some true:=by rfl) (hx:ev n s x=.t (.sc (.int k a)):=by conv=>lhs;whnf) (hy:ev n s y=.t (.sc (.int k b)):=by conv=>lhs;whnf) (hfp:jI (jT ⟨some d,.binOp .geq t x y t',ty,pos,after,g⟩) (ev n s) (.binOp .geq t x y t')=fp:=by rfl):Run P n ops K ((⟨some d,.binOp .geq t x y t',ty,pos,after,g⟩,ix)::r) acc ⟨s,m⟩:=zet hg hx hy (by simp only [zjz,if_true]) hfp hr
theorem zkp {t t':TypeId} {x y:Operand} {a b:ByteArray} {fp:List Nat}  (hr:Run P n ops K r ((ix,⟨some d,.binOp .eql t x y t',ty,pos,after,g⟩,⟨.t (.sc (.bool (decide (a=b)))),[],fp⟩)::acc) ⟨upd s d (.t (.sc (.bool (decide (a=b))))),m⟩) (hg:aL n ops ⟨some d,.binOp .eql t x y t',ty,pos,after,g⟩ ⟨s,m⟩=some true:=by rfl) (hx:ev n s x=.t (.sc (.str a)):=by conv=>lhs;whnf) (hy:ev n s y=.t (.sc (.str b)):=by conv=>lhs;whnf) (hfp:jI (jT ⟨some d,.binOp .eql t x y t',ty,pos,after,g⟩) (ev n s) (.binOp .eql t x y t')=fp:=by rfl):Run P n ops K ((⟨some d,.binOp .eql t x y t',ty,pos,after,g⟩,ix)::r) acc ⟨s,m⟩:=zet hg hx hy (by simp only [zjz]) hfp hr
theorem zr3 {t t':TypeId} {x y:Operand} {a b:ByteArray} {fp:List Nat}  (hr:Run P n ops K r ((ix,⟨some d,.binOp .neq t x y t',ty,pos,after,g⟩,⟨.t (.sc (.bool (decide (a≠b)))),[],fp⟩)::acc) ⟨upd s d (.t (.sc (.bool (decide (a≠b))))),m⟩) (hg:aL n ops ⟨some d,.binOp .neq t x y t',ty,pos,after,g⟩ ⟨s,m⟩=some true:=by rfl) (hx:ev n s x=.t (.sc (.str a)):=by conv=>lhs;whnf) (hy:ev n s y=.t (.sc (.str b)):=by conv=>lhs;whnf) (hfp:jI (jT ⟨some d,.binOp .neq t x y t',ty,pos,after,g⟩) (ev n s) (.binOp .neq t x y t')=fp:=by rfl):Run P n ops K ((⟨some d,.binOp .neq t x y t',ty,pos,after,g⟩,ix)::r) acc ⟨s,m⟩:=zet hg hx hy (by simp only [zjz]) hfp hr
theorem zs2 {t t':TypeId} {x y:Operand} {a b:ByteArray} {c:ByteArray} {fp:List Nat} (hc:zrr a b=some c) (hr:Run P n ops K r ((ix,⟨some d,.binOp .add t x y t',ty,pos,after,g⟩,⟨.t (.sc (.str c)),[],fp⟩)::acc) ⟨upd s d (.t (.sc (.str c))),m⟩) (hg:aL n ops ⟨some d,.binOp .add t x y t',ty,pos,after,g⟩ ⟨s,m⟩=some true:=by rfl) (hx:ev n s x=.t (.sc (.str a)):=by conv=>lhs;whnf) (hy:ev n s y=.t (.sc (.str b)):=by conv=>lhs;whnf) (hfp:jI (jT ⟨some d,.binOp .add t x y t',ty,pos,after,g⟩) (ev n s) (.binOp .add t x y t')=fp:=by rfl):Run P n ops K ((⟨some d,.binOp .add t x y t',ty,pos,after,g⟩,ix)::r) acc ⟨s,m⟩:=zet hg hx hy (by obtain ⟨h1,rfl⟩:=zp2 hc;simp [zjz,h1]) hfp hr
theorem zr4 {t t':TypeId} {x y:Operand} {a b:Bool} {fp:List Nat} (ht:P.underlying t=some .bool) (hr:Run P n ops K r ((ix,⟨some d,.binOp .neq t x y t',ty,pos,after,g⟩,⟨.t (.sc (.bool (decide (a≠b)))),[],fp⟩)::acc) ⟨upd s d (.t (.sc (.bool (decide (a≠b))))),m⟩) (hg:aL n ops ⟨some d,.binOp .neq t x y t',ty,pos,after,g⟩ ⟨s,m⟩=some true:=by rfl) (hx:ev n s x=.t (.sc (.bool a)):=by conv=>lhs;whnf) (hy:ev n s y=.t (.sc (.bool b)):=by conv=>lhs;whnf) (hfp:jI (jT ⟨some d,.binOp .neq t x y t',ty,pos,after,g⟩) (ev n s) (.binOp .neq t x y t')=fp:=by rfl):Run P n ops K ((⟨some d,.binOp .neq t x y t',ty,pos,after,g⟩,ix)::r) acc ⟨s,m⟩:=ztj hg hx hy ht rfl hfp hr
theorem znn {t t' e:TypeId} {x y:Operand} {b:Bool} {z:T} {fp:List Nat} (ht:P.underlying t=some (.slice e)) (hr:Run P n ops K r ((ix,⟨some d,.binOp .eql t x y t',ty,pos,after,g⟩,⟨.t (.sc (.bool b)),[],fp⟩)::acc) ⟨upd s d (.t (.sc (.bool b))),m⟩) (hg:aL n ops ⟨some d,.binOp .eql t x y t',ty,pos,after,g⟩ ⟨s,m⟩=some true:=by rfl) (hx:ev n s x=.sn b z:=by conv=>lhs;whnf) (hy:ev n s y=.nl:=by conv=>lhs;whnf) (hfp:jI (jT ⟨some d,.binOp .eql t x y t',ty,pos,after,g⟩) (ev n s) (.binOp .eql t x y t')=fp:=by rfl):Run P n ops K ((⟨some d,.binOp .eql t x y t',ty,pos,after,g⟩,ix)::r) acc ⟨s,m⟩:=rR (v:=.t (.sc (.bool b))) (u:=[]) hg (by simp only [lB,hx,hy,ht]) hfp rfl rfl hr
theorem u1 {t:TypeId} {x:Operand} {b:Bool} {fp:List Nat}  (hr:Run P n ops K r ((ix,⟨some d,.unOp .not t x,ty,pos,after,g⟩,⟨.t (.sc (.bool (!b))),[],fp⟩)::acc) ⟨upd s d (.t (.sc (.bool (!b)))),m⟩) (hg:aL n ops ⟨some d,.unOp .not t x,ty,pos,after,g⟩ ⟨s,m⟩=some true:=by rfl) (hx:ev n s x=.t (.sc (.bool b)):=by conv=>lhs;whnf) (hfp:jI (jT ⟨some d,.unOp .not t x,ty,pos,after,g⟩) (ev n s) (.unOp .not t x)=fp:=by rfl):Run P n ops K ((⟨some d,.unOp .not t x,ty,pos,after,g⟩,ix)::r) acc ⟨s,m⟩:=r_un hg hx rfl hfp hr
theorem zfG {x:Operand} {i:Nat} {vs:List V} {v:V} {fp:List Nat}  (hr:Run P n ops K r ((ix,⟨some d,.extract x i,ty,pos,after,g⟩,⟨v,[],fp⟩)::acc) ⟨upd s d v,m⟩) (hg:aL n ops ⟨some d,.extract x i,ty,pos,after,g⟩ ⟨s,m⟩=some true:=by rfl) (hx:ev n s x=.tp vs:=by conv=>lhs;whnf) (hv:vs[i]?=some v:=by conv=>lhs;whnf) (hfp:jI (jT ⟨some d,.extract x i,ty,pos,after,g⟩) (ev n s) (.extract x i)=fp:=by rfl):Run P n ops K ((⟨some d,.extract x i,ty,pos,after,g⟩,ix)::r) acc ⟨s,m⟩:=zpB hg hx hv hfp hr
theorem zrU {x:Operand} {j off:Nat} {fp:List Nat}  (hr:Run P n ops K r ((ix,⟨some d,.nilCheck x,ty,pos,after,g⟩,⟨.rf j off,[],fp⟩)::acc) ⟨upd s d (.rf j off),m⟩) (hg:aL n ops ⟨some d,.nilCheck x,ty,pos,after,g⟩ ⟨s,m⟩=some true:=by rfl) (hx:ev n s x=.rf j off:=by conv=>lhs;whnf) (hfp:jI (jT ⟨some d,.nilCheck x,ty,pos,after,g⟩) (ev n s) (.nilCheck x)=fp:=by rfl):Run P n ops K ((⟨some d,.nilCheck x,ty,pos,after,g⟩,ix)::r) acc ⟨s,m⟩:=znO hg hx hfp hr
theorem s_int {src dst:TypeId} {x:Operand} {k k1 k2:IntKind} {j c:Int} {fp:List Nat} (h1:P.underlying src=some (.int k1)) (h2:P.underlying dst=some (.int k2)) (hj:k2.wrap j=c) (hr:Run P n ops K r ((ix,⟨some d,.convert src dst x,ty,pos,after,g⟩,⟨.t (.sc (.int k2 c)),[],fp⟩)::acc) ⟨upd s d (.t (.sc (.int k2 c))),m⟩) (hg:aL n ops ⟨some d,.convert src dst x,ty,pos,after,g⟩ ⟨s,m⟩=some true:=by rfl) (hx:ev n s x=.t (.sc (.int k j)):=by conv=>lhs;whnf) (hfp:jI (jT ⟨some d,.convert src dst x,ty,pos,after,g⟩) (ev n s) (.convert src dst x)=fp:=by rfl):Run P n ops K ((⟨some d,.convert src dst x,ty,pos,after,g⟩,ix)::r) acc ⟨s,m⟩:=r_int hg h1 h2 hx hj hfp hr
theorem znu {f:FuncId} {caps:Array Operand} {vs:List V} {fp:List Nat}  (hr:Run P n ops K r ((ix,⟨some d,.makeFunc (.func f) #[] caps,ty,pos,after,g⟩,⟨.fn f vs,[],fp⟩)::acc) ⟨upd s d (.fn f vs),m⟩) (hg:aL n ops ⟨some d,.makeFunc (.func f) #[] caps,ty,pos,after,g⟩ ⟨s,m⟩=some true:=by rfl) (hc:caps.toList.map (ev n s)=vs:=by simp only [zkB,zdH,zhp,zky,tJ,zbm,eX,pR,Nat.reduceLT,Nat.reduceEqDiff,Nat.reduceAdd,reduceIte,if_true,if_false,zjw,ofS,aZ,reduceCtorEq,lA,List.elem_cons,List.elem_nil,Nat.reduceBEq,cond_true,cond_false,beq_self_eq_true,List.take_succ_cons,List.take_zero,List.drop_succ_cons,List.drop_zero,List.take_nil,List.drop_nil,List.nil_append,List.cons_append,List.append_nil,List.length_cons,List.length_nil,List.head?_cons,List.map_cons,List.map_nil,Nat.reduceAdd,Nat.zero_add,List.length_map,List.toList_toArray];rfl) (hfp:jI (jT ⟨some d,.makeFunc (.func f) #[] caps,ty,pos,after,g⟩) (ev n s) (.makeFunc (.func f) #[] caps)=fp:=by rfl):Run P n ops K ((⟨some d,.makeFunc (.func f) #[] caps,ty,pos,after,g⟩,ix)::r) acc ⟨s,m⟩:=zti hg hc hfp hr
theorem ziv {t:TypeId} {parts:Array (Nat × Operand)} {zs us:List V} {pl:List (Nat × Nat)} {ps:List (Nat × V)} {fp:List Nat} (hz:mG P t=some zs) (hpl:xZ P t=some pl) (hr:Run P n ops K r ((ix,⟨some d,.build t parts,ty,pos,after,g⟩,⟨.ag us,[],fp⟩)::acc) ⟨upd s d (.ag us),m⟩) (hg:aL n ops ⟨some d,.build t parts,ty,pos,after,g⟩ ⟨s,m⟩=some true:=by rfl) (hp:parts.toList.map (fun p=>(p.1,ev n s p.2))=ps:=by simp only [zkB,zdH,zhp,zky,tJ,zbm,eX,pR,Nat.reduceLT,Nat.reduceEqDiff,Nat.reduceAdd,reduceIte,if_true,if_false,zjw,ofS,aZ,reduceCtorEq,lA,List.elem_cons,List.elem_nil,Nat.reduceBEq,cond_true,cond_false,beq_self_eq_true,List.take_succ_cons,List.take_zero,List.drop_succ_cons,List.drop_zero,List.take_nil,List.drop_nil,List.nil_append,List.cons_append,List.append_nil,List.length_cons,List.length_nil,List.head?_cons,List.map_cons,List.map_nil,Nat.reduceAdd,Nat.zero_add,List.length_map,List.toList_toArray];rfl) (hf:zg2 (pl[·]?) zs ps=some us:=by simp only [zg2,xC,V.one,bZ,cK,List.take_succ_cons,List.take_zero,List.drop_succ_cons,List.drop_zero,List.take_nil,List.drop_nil,List.nil_append,List.cons_append,List.append_nil,List.length_cons,List.length_nil,List.head?_cons,List.map_cons,List.map_nil,Nat.reduceAdd,Nat.zero_add,List.length_map,List.getElem?_cons_zero,List.getElem?_cons_succ,and_self,if_true,reduceIte,Nat.reduceLeDiff,true_and,and_true,Nat.le_refl];rfl) (hfp:jI (jT ⟨some d,.build t parts,ty,pos,after,g⟩) (ev n s) (.build t parts)=fp:=by rfl):Run P n ops K ((⟨some d,.build t parts,ty,pos,after,g⟩,ix)::r) acc ⟨s,m⟩:=zsp hg hz hpl hp hf hfp hr
theorem vM {α:Type} {t e:TypeId} {by' sz k:Nat} {parts:Array (Nat × Operand)} {zt:List T} {ps:List (Nat × V)} {ids:List Nat} {fs:List (List T)} {u:List (Nat × Ob)} {m1:Nat->Ob} {fp:List Nat} (row:α->List T) (l:List α) (ha:zb2 P t=some (e,by',sz)) (hz:zkk P e=some zt) (hr:Run P n ops K r ((ix,⟨some d,.buildSlice t k parts,ty,pos,after,g⟩,⟨.ar d,u++[(d,.arr (l.map row) e true)],fp⟩)::acc) ⟨upd s d (.ar d),upd m1 d (.arr (l.map row) e true)⟩) (hg:aL n ops ⟨some d,.buildSlice t k parts,ty,pos,after,g⟩ ⟨s,m⟩=some true:=by rfl) (hzl:zt.length=sz:=by rfl) (hk:k*sz<=16777216:=by decide) (h1:qE (m d)=true:=by rfl) (hp:parts.toList.map (fun p=>(p.1,ev n s p.2))=ps:=by simp only [zkB,zdH,zhp,zky,tJ,zbm,eX,pR,Nat.reduceLT,Nat.reduceEqDiff,Nat.reduceAdd,reduceIte,if_true,if_false,zjw,ofS,aZ,reduceCtorEq,lA,List.elem_cons,List.elem_nil,Nat.reduceBEq,cond_true,cond_false,beq_self_eq_true,List.take_succ_cons,List.take_zero,List.drop_succ_cons,List.drop_zero,List.take_nil,List.drop_nil,List.nil_append,List.cons_append,List.append_nil,List.length_cons,List.length_nil,List.head?_cons,List.map_cons,List.map_nil,Nat.reduceAdd,Nat.zero_add,List.length_map,List.toList_toArray];rfl) (hids:ps.flatMap (fun p=>(bZ p.2).flatMap fz)=ids:=by simp only [List.flatMap_cons,List.flatMap_nil,bZ,fz,List.take_succ_cons,List.take_zero,List.drop_succ_cons,List.drop_zero,List.take_nil,List.drop_nil,List.nil_append,List.cons_append,List.append_nil,List.length_cons,List.length_nil,List.head?_cons,List.map_cons,List.map_nil,Nat.reduceAdd,Nat.zero_add,List.length_map];rfl) (hd:d ∉ ids:=by simp) (hf:zcA m sz (List.replicate k zt) ps=some fs:=by (simp only [zcA,xC,V.one,bZ,zaC,toT,List.replicate,List.set_cons_zero,List.set_cons_succ,and_self,true_and,and_true,Nat.reduceLT,Nat.zero_lt_succ,zkB,zdH,zhp,zky,tJ,zbm,eX,pR,Nat.reduceLT,Nat.reduceEqDiff,Nat.reduceAdd,reduceIte,if_true,if_false,zjw,ofS,aZ,reduceCtorEq,lA,List.elem_cons,List.elem_nil,Nat.reduceBEq,cond_true,cond_false,beq_self_eq_true,List.take_succ_cons,List.take_zero,List.drop_succ_cons,List.drop_zero,List.take_nil,List.drop_nil,List.nil_append,List.cons_append,List.append_nil,List.length_cons,List.length_nil,List.head?_cons,List.map_cons,List.map_nil,Nat.reduceAdd,Nat.zero_add,List.length_map];rfl)) (hfs:l.map row=fs:=by first | rfl | (simp only [List.map_cons,List.map_nil,aB.row_eq,ziB.row_eq,kH.row_eq,aH.row_eq,Hit.row_eq,aI.row_eq,eD.row_eq,cM.row_eq,rL_eq]<;>rfl)) (hu:fzU m ids=u:=by repeat (first | exact xB | (apply tV;focus ((conv=>lhs;whnf);done)) | (apply tU;focus ((conv=>lhs;whnf);done)))) (hm1:app m u=m1:=by simp only [app];rfl) (hfp:jI (jT ⟨some d,.buildSlice t k parts,ty,pos,after,g⟩) (ev n s) (.buildSlice t k parts)=fp:=by rfl):Run P n ops K ((⟨some d,.buildSlice t k parts,ty,pos,after,g⟩,ix)::r) acc ⟨s,m⟩:=by subst hfs;exact zlq hg ha hz hzl hk h1 hp hids hd hf hu hm1 hfp hr
theorem pL {α:Type} {l l2:List α} {t e:TypeId} {by' sz k:Nat} {x y:Operand} {v:V} {u:List (Nat × Ob)} {m1:Nat->Ob} {fp:List Nat} (row:α->List T) (hrow:∀ y,(row y).length=sz) (hb:decide ((l.length+l2.length)*by'<=140737488355328)=true) (ha:zb2 P t=some (e,by',sz)) (hr:Run P n ops K r ((ix,⟨some d,.call { callee:=.builtin .append,args:=#[x,y],argTypes:=#[t,t] },ty,pos,after,g⟩,⟨.ar d,u++[(k,.dead),(d,.arr ((l++l2).map row) e true)],fp⟩)::acc) ⟨upd s d (.ar d),upd (upd m1 k .dead) d (.arr ((l++l2).map row) e true)⟩) (hg:aL n ops ⟨some d,.call { callee:=.builtin .append,args:=#[x,y],argTypes:=#[t,t] },ty,pos,after,g⟩ ⟨s,m⟩=some true:=by rfl) (hx:ev n s x=.ar k:=by conv=>lhs;whnf) (hy:ev n s y=v:=by conv=>lhs;whnf) (hv:toT m v=some (.sl (l2.map row)):=by first | (conv=>lhs;whnf) | rfl) (h1:qE (m d)=true:=by rfl) (h2:qE (m (d+1000))=true:=by rfl) (h3:d ∉ fz v:=by simp [fz]) (h4:d+1000 ∉ fz v:=by simp [fz]) (hu:fzU m (fz v)=u:=by repeat (first | exact xB | (apply tV;focus ((conv=>lhs;whnf);done)) | (apply tU;focus ((conv=>lhs;whnf);done)))) (hm1:app m u=m1:=by simp only [app];rfl) (hm:m1 k=.arr (l.map row) e true:=by conv=>lhs;whnf) (hfp:jI (jT ⟨some d,.call { callee:=.builtin .append,args:=#[x,y],argTypes:=#[t,t] },ty,pos,after,g⟩) (ev n s) (.call { callee:=.builtin .append,args:=#[x,y],argTypes:=#[t,t] })=fp:=by rfl):Run P n ops K ((⟨some d,.call { callee:=.builtin .append,args:=#[x,y],argTypes:=#[t,t] },ty,pos,after,g⟩,ix)::r) acc ⟨s,m⟩:=zqP hg ha hx hy hv (zpn hrow) h1 h2 h3 h4 hu hm1 hm (by simpa using hb) (List.map_append).symm rfl hfp hr
theorem ziu {α:Type} {l:List α} {y:α} {t e:TypeId} {p x:Operand} {q k sz off:Nat} {j:Int} {v:V} {ws:List V} {cs cs2 ts:List T} {u:List (Nat × Ob)} {m1:Nat->Ob} {fp:List Nat} (row:α->List T) (y2:α) (hix:idx l j=some y) (hrow:row y=cs) (hrow2:row y2=cs2) (hs:kG P t=some k) (he:kG P e=some sz) (hr:Run P n ops K r ((ix,⟨none,.store t p x,ty,pos,after,g⟩,⟨.jk,u++[(q,.arr ((l.set j.toNat y2).map row) e true)],fp⟩)::acc) ⟨s,upd m1 q (.arr ((l.set j.toNat y2).map row) e true)⟩) (hg:aL n ops ⟨none,.store t p x,ty,pos,after,g⟩ ⟨s,m⟩=some true:=by rfl) (hp:ev n s p=.re q j.toNat sz off:=by conv=>lhs;whnf) (hm:m q=.arr (l.map row) e true:=by conv=>lhs;whnf) (hx:ev n s x=v:=by conv=>lhs;whnf) (hw:bZ v=ws:=by conv=>lhs;whnf) (ho:y6 ws=true:=by rfl) (hl:ws.length=k:=by rfl) (hl2:cs.length=sz:=by rfl) (hl3:off+ws.length<=sz:=by simp only [List.take_succ_cons,List.take_zero,List.drop_succ_cons,List.drop_zero,List.take_nil,List.drop_nil,List.nil_append,List.cons_append,List.append_nil,List.length_cons,List.length_nil,List.head?_cons,List.map_cons,List.map_nil,Nat.reduceAdd,Nat.zero_add,List.length_map];omega) (hts:zaC m ws=some ts:=by rfl) (hk:q ∉ ws.flatMap fz:=by simp [fz]) (hu:fzU m (ws.flatMap fz)=u:=by repeat (first | exact xB | (apply tV;focus ((conv=>lhs;whnf);done)) | (apply tU;focus ((conv=>lhs;whnf);done)))) (hm1:app m u=m1:=by simp only [app];rfl) (hsp:cK cs off ts=cs2:=by first | rfl | (simp only [cK,List.take_succ_cons,List.take_zero,List.drop_succ_cons,List.drop_zero,List.take_nil,List.drop_nil,List.nil_append,List.cons_append,List.append_nil,List.length_cons,List.length_nil,List.head?_cons,List.map_cons,List.map_nil,Nat.reduceAdd,Nat.zero_add,List.length_map];rfl)) (hfp:jI (jT ⟨none,.store t p x,ty,pos,after,g⟩) (ev n s) (.store t p x)=fp:=by rfl):Run P n ops K ((⟨none,.store t p x,ty,pos,after,g⟩,ix)::r) acc ⟨s,m⟩:=zqM hg hp hm hx hw ho (by rw [hl];exact hs) (zhn row hix) hts (by rw [hrow];exact hl2) he hl3 hk hu hm1 (by rw [hrow,hsp,<- hrow2,List.map_set]) hfp hr
theorem zsS {α:Type} {t e:TypeId} {by' sz:Nat} {x y:Operand} {k k':IntKind} {j:Int} {zt:List T} {fp:List Nat} (row:α->List T) (z:α) (hrow:row z=zt) (hc:(decide (0<=j)&&decide (j.toNat*by'<=140737488355328))=true) (ha:zb2 P t=some (e,by',sz)) (hz:zkk P e=some zt) (hr:Run P n ops K r ((ix,⟨some d,.makeSlice t x y,ty,pos,after,g⟩,⟨.ar d,[(d,.arr ((List.replicate j.toNat z).map row) e true)],fp⟩)::acc) ⟨upd s d (.ar d),upd m d (.arr ((List.replicate j.toNat z).map row) e true)⟩) (hg:aL n ops ⟨some d,.makeSlice t x y,ty,pos,after,g⟩ ⟨s,m⟩=some true:=by rfl) (hzl:zt.length=sz:=by rfl) (hx:ev n s x=.t (.sc (.int k j)):=by conv=>lhs;whnf) (hy:ev n s y=.t (.sc (.int k' j)):=by conv=>lhs;whnf) (h1:qE (m d)=true:=by rfl) (hfp:jI (jT ⟨some d,.makeSlice t x y,ty,pos,after,g⟩) (ev n s) (.makeSlice t x y)=fp:=by rfl):Run P n ops K ((⟨some d,.makeSlice t x y,ty,pos,after,g⟩,ix)::r) acc ⟨s,m⟩:=by
 have e1:(List.replicate j.toNat z).map row=List.replicate j.toNat zt:=by rw [List.map_replicate,hrow]
 simp only [Bool.and_eq_true,decide_eq_true_eq] at hc;rw [e1] at hr;exact ztg hg ha hz hzl hx hy hc.1 hc.2 h1 hfp hr
theorem zg5 {α:Type} {l y:List α} {t e:TypeId} {sz:Nat} {x:Operand} {v:V} {u:List (Nat × Ob)} {m1:Nat->Ob} {hi:Operand} {kj:IntKind} {j:Int}  {fp:List Nat} (row:α->List T) (hsz:∀ y,(row y).length=sz) (hs:sub l 0 j=some y) (hu:P.underlying t=some (.slice e)) (he:zcw P t=some (e,sz)) (hr:Run P n ops K r ((ix,⟨some d,.slice t x none (some hi) none,ty,pos,after,g⟩,⟨.t (.sl (y.map row)),u,fp⟩)::acc) ⟨upd s d (.t (.sl (y.map row))),m1⟩) (hg:aL n ops ⟨some d,.slice t x none (some hi) none,ty,pos,after,g⟩ ⟨s,m⟩=some true:=by rfl) (hx:ev n s x=v:=by conv=>lhs;whnf) (hv:toT m v=some (.sl (l.map row)):=by first | (conv=>lhs;whnf) | rfl) (hhi:ev n s hi=.t (.sc (.int kj j)):=by conv=>lhs;whnf) (hfu:fzU m (fz v)=u:=by repeat (first | exact xB | (apply tV;focus ((conv=>lhs;whnf);done)) | (apply tU;focus ((conv=>lhs;whnf);done)))) (hm1:app m u=m1:=by simp only [app];rfl) (hfp:jI (jT ⟨some d,.slice t x none (some hi) none,ty,pos,after,g⟩) (ev n s) (.slice t x none (some hi) none)=fp:=by rfl):Run P n ops K ((⟨some d,.slice t x none (some hi) none,ty,pos,after,g⟩,ix)::r) acc ⟨s,m⟩:=by
 obtain ⟨h0,h1,h2,rfl⟩:=zmT hs;exact zo5 (l:=none) (h:=some (ev n s hi)) hg hx rfl rfl (zjv row hsz hu he hv rfl (zj0 hhi (by omega)) h1 h2 hfu) hm1 hfp hr
theorem zs8 {α:Type} {l y:List α} {t e:TypeId} {sz:Nat} {x:Operand} {v:V} {u:List (Nat × Ob)} {m1:Nat->Ob} {lo:Operand} {ki:IntKind} {i:Int} {hi:Operand} {kj:IntKind} {j:Int}  {fp:List Nat} (row:α->List T) (hsz:∀ y,(row y).length=sz) (hs:sub l i j=some y) (hu:P.underlying t=some (.slice e)) (he:zcw P t=some (e,sz)) (hr:Run P n ops K r ((ix,⟨some d,.slice t x (some lo) (some hi) none,ty,pos,after,g⟩,⟨.t (.sl (y.map row)),u,fp⟩)::acc) ⟨upd s d (.t (.sl (y.map row))),m1⟩) (hg:aL n ops ⟨some d,.slice t x (some lo) (some hi) none,ty,pos,after,g⟩ ⟨s,m⟩=some true:=by rfl) (hx:ev n s x=v:=by conv=>lhs;whnf) (hv:toT m v=some (.sl (l.map row)):=by first | (conv=>lhs;whnf) | rfl) (hlo:ev n s lo=.t (.sc (.int ki i)):=by conv=>lhs;whnf) (hhi:ev n s hi=.t (.sc (.int kj j)):=by conv=>lhs;whnf) (hfu:fzU m (fz v)=u:=by repeat (first | exact xB | (apply tV;focus ((conv=>lhs;whnf);done)) | (apply tU;focus ((conv=>lhs;whnf);done)))) (hm1:app m u=m1:=by simp only [app];rfl) (hfp:jI (jT ⟨some d,.slice t x (some lo) (some hi) none,ty,pos,after,g⟩) (ev n s) (.slice t x (some lo) (some hi) none)=fp:=by rfl):Run P n ops K ((⟨some d,.slice t x (some lo) (some hi) none,ty,pos,after,g⟩,ix)::r) acc ⟨s,m⟩:=by
 obtain ⟨h0,h1,h2,rfl⟩:=zmT hs;exact zo5 (l:=some (ev n s lo)) (h:=some (ev n s hi)) hg hx rfl rfl (zjv row hsz hu he hv (zj0 hlo h0) (zj0 hhi (by omega)) h1 h2 hfu) hm1 hfp hr
theorem aD {ρ:Type} {Q:Exit->St->Prop} {st:St} {c:Operand} {x y:Code} {b:Bool} {X Y:Option ρ} {r:ρ} (hF:(bif b then X else Y)=some r) (h1:b=true->X=some r->AWP P C n x Q st) (h2:b=false->Y=some r->AWP P C n y Q st) (hc:ev n st.s c=.t (.sc (.bool b)):=by conv=>lhs;whnf):AWP P C n (.cond c x y) Q st:=by
 cases b
 ·exact vS hc (h2 rfl hF)
 ·exact sI hc (h1 rfl hF)
theorem aG {ρ:Type} {l:List (Oper × Nat)} {X Y:Option ρ} {r:ρ} (b:Bool) (d:Nat) (hF:(bif b then X else Y)=some r) (h1:b=true->X=some r->Run P n ops K l acc ⟨upd s d (.t (.sc (.bool true))),m⟩) (h2:b=false->Y=some r->Run P n ops K l acc ⟨upd s d (.t (.sc (.bool false))),m⟩) (hs:s d=.t (.sc (.bool b)):=by conv=>lhs;whnf):Run P n ops K l acc ⟨s,m⟩:=by
 have e:∀ v,s d=v->upd s d v=s:=fun v h=>by
  funext i;by_cases h1:i=d
  ·subst h1;rw [aE];exact h.symm
  ·rw [aJ _ _ _ h1]
 cases b
 ·have:=h2 rfl hF;rwa [e _ hs] at this
 ·have:=h1 rfl hF;rwa [e _ hs] at this
end
end Go.Abs
end
section
set_option linter.unusedSimpArgs false
set_option linter.unusedVariables false
namespace Go.Abs
section
variable {P:Program} {n:Nat}
variable {ops:Array Oper} {K:List (Nat × Oper × Ev)->St->Prop} {r:List (Oper × Nat)} {acc:List (Nat × Oper × Ev)} {s:Nat->V} {m:Nat->Ob} {d ix:Nat} {ty:TypeId} {pos:String} {after:Array Edge} {g:Option (Nat × Bool)}
def zrs (m1:Nat->Ob) (L:List (Nat × Ob)) (q:Nat->Nat):List (Nat × Nat)->Prop
 | []=>True
 | (a,b)::D=>((qE (cR L a)=true/\qE (m1 b)=true)∨(m1 b=(cR L a).ren q/\(cR L a).ids.all (fun k=>!qE (cR L k))=true/\qE (cR L a)=false))/\zrs m1 L q D
theorem zq3 {m1:Nat->Ob} {L:List (Nat × Ob)} {q:Nat->Nat}:zrs m1 L q []:=trivial
theorem zpP {m1:Nat->Ob} {L:List (Nat × Ob)} {q:Nat->Nat} {a b:Nat} {D:List (Nat × Nat)} (h1:m1 b=(cR L a).ren q) (h2:(cR L a).ids.all (fun k=>!qE (cR L k))=true) (h3:qE (cR L a)=false) (h:zrs m1 L q D):zrs m1 L q ((a,b)::D):=⟨.inr ⟨h1,h2,h3⟩,h⟩
theorem zq4 {m1:Nat->Ob} {L:List (Nat × Ob)} {q:Nat->Nat} {a b:Nat} {D:List (Nat × Nat)} (h1:qE (cR L a)=true) (h2:qE (m1 b)=true) (h:zrs m1 L q D):zrs m1 L q ((a,b)::D):=⟨.inl ⟨h1,h2⟩,h⟩
theorem zjW {m1:Nat->Ob} {L:List (Nat × Ob)} {q:Nat->Nat}:∀ {D:List (Nat × Nat)},zrs m1 L q D->∀ p∈D,(qE (cR L p.1)=true/\qE (m1 p.2)=true)∨(m1 p.2=(cR L p.1).ren q/\(cR L p.1).ids.all (fun k=>!qE (cR L k))=true/\qE (cR L p.1)=false)
 | [],_,p,hp=>by cases hp
 | (a,b)::D,h,p,hp=>by
   rcases List.mem_cons.1 hp with rfl | hp
   ·exact h.1
   ·exact zjW h.2 p hp
theorem zdG {o:Ob}:qE o=false↔o≠.no:=by cases o<;>simp [qE]
theorem zdE:∀ (l:List (Nat × Ob)) (i:Nat),cR l i≠.no->i∈l.map (·.1)
 | [],i,h=>absurd rfl h
 | (j,o)::l,i,h=>by
   rw [eX] at h;by_cases hij:i=j
   ·simp [hij]
   ·rw [if_neg hij] at h;simp only [List.map_cons,List.mem_cons];exact .inr (zdE l i h)
theorem zpH {os':Nat->Ob} {q:Nat->Nat}:zbQ os' q []=[]:=rfl
theorem znY {os':Nat->Ob} {q:Nat->Nat} {a b:Nat} {D:List (Nat × Nat)} {o o':Ob} {lv:List (Nat × Ob)} (h1:os' a=o) (h2:qE o=false) (h3:o.ren q=o') (h:zbQ os' q D=lv):zbQ os' q ((a,b)::D)=(b,o')::lv:=by
 subst h1;subst h3;subst h;simp only [zbQ,List.map_cons];cases hh:os' a<;>simp_all [qE]
theorem zkT {m:Nat->Ob} {q:Nat->Nat} {ks:List Nat} {os:Nat->Ob}:zaR m q ks os [] []:=trivial
theorem zjb {m:Nat->Ob} {q:Nat->Nat} {ks:List Nat} {os:Nat->Ob} {v c:V} {vs cs:List V} (h:zot m q ks os v c) (h2:zaR m q ks os vs cs):zaR m q ks os (v::vs) (c::cs):=⟨h,h2⟩
theorem zqR {m:Nat->Ob} {q:Nat->Nat} {ks:List Nat} {L:List (Nat × Ob)} {v c:V} (h1:c.ren q=v) (h2:c.ids.all (fun k=>!qE (cR L k))=true):zot m q ks (cR L) v c:=.inl ⟨h1,fun k hk=>by
 rw [List.all_eq_true] at h2;have:=h2 k hk;exact zdG.1 (by simpa using this)⟩
theorem zrF {m:Nat->Ob} {q:Nat->Nat} {ks:List Nat} {os:Nat->Ob} {v:V} {t:T} (h1:toT m v=some t) (h2:(fz v).all (fun k=>ks.elem k)=true):zot m q ks os v (.t t):=.inr (.inl ⟨t,h1,rfl,fun k hk=>by
 rw [List.all_eq_true] at h2;simpa using h2 k hk⟩)
theorem zo7 {m:Nat->Ob} {q:Nat->Nat} {ks:List Nat} {os:Nat->Ob} {vs cs:List V} {ts:List T} (h1:zaC m vs=some ts) (hc:ts.map .t=cs) (h2:(vs.flatMap fz).all (fun k=>ks.elem k)=true):zot m q ks os (.ag vs) (.ag cs):=.inr (.inr ⟨vs,ts,rfl,h1,by rw [hc],fun k hk=>by
 rw [List.all_eq_true] at h2;simpa using h2 k hk⟩)
theorem aT {c:Call} {fop:Operand} {f:FuncId} {caps:List V} {cargs avs:List V} {m1 m2:Nat->Ob} {rv rv':V} {lv u:List (Nat × Ob)} {fp:List Nat} (D:List (Nat × Nat)) (ks:List Nat) (L L':List (Nat × Ob)) (hAC:AC P f cargs (cR L) rv (cR L'))
  (hr:Run P n ops K r ((ix,⟨some d,.call c,ty,pos,after,g⟩,⟨rv',u++lv,fp⟩)::acc) ⟨upd s d rv',m2⟩)
  (hg:aL n ops ⟨some d,.call c,ty,pos,after,g⟩ ⟨s,m⟩=some true:=by rfl)
  (hc:c.callee=.value fop:=by rfl) (hf:ev n s fop=.fn f caps:=by conv=>lhs;whnf)
  (hav:c.args.toList.map (ev n s)++caps=avs:=by repeat (first | exact znk | (apply zlm;conv=>lhs;whnf)))
  (hu:fzU m ks=u:=by repeat (first | exact xB | (apply tV;focus ((conv=>lhs;whnf);done)) | (apply tU;focus ((conv=>lhs;whnf);done))))
  (hm1:app m u=m1:=by simp only [app];rfl)
  (hp:zaR m1 (qOf D) ks (cR L) avs cargs:=by repeat (first | exact zkT | refine zjb (by first | exact zqR rfl rfl | exact zrF rfl rfl | exact zo7 rfl rfl rfl) ?_))
  (hos:zrs m1 L (qOf D) D:=by repeat (first | exact zq3 | refine zpP rfl rfl rfl ?_ | refine zq4 rfl rfl ?_))
  (hdom:(L.map (·.1)).all (fun k=>(D.map (·.1)).elem k)=true:=by rfl) (hdom':(L'.map (·.1)).all (fun k=>(D.map (·.1)).elem k)=true:=by rfl)
  (hD1:(D.map (·.1)).Nodup:=by decide) (hD2:(D.map (·.2)).Nodup:=by decide) (hno':D.all (fun p=>!qE (cR L' p.1))=true:=by rfl)
  (hrv:rv.ren (qOf D)=rv':=by first | exact V.ren_noids _ rfl | (simp only [V.ren,V.renL,qOf,Nat.reduceEqDiff,reduceIte,if_true,if_false];rfl))
  (hlv:zbQ (cR L') (qOf D) D=lv:=by repeat (first | exact zpH | (apply znY;(conv=>lhs;whnf);rfl;(first | exact Ob.ren_noids rfl | (simp only [Ob.ren,V.ren,V.renL,qOf,Nat.reduceEqDiff,reduceIte,if_true,if_false];rfl)))))
  (hm2:app m1 lv=m2:=by simp only [app];rfl)
  (hfp:jI 0 (ev n s) (.call c)++ks++D.map (·.2)=fp:=by rfl):Run P n ops K ((⟨some d,.call c,ty,pos,after,g⟩,ix)::r) acc ⟨s,m⟩:=by
 subst hav;subst hu;subst hm1;subst hfp;subst hrv;subst hlv;subst hm2;have hno:∀ p∈D,cR L' p.1≠.no:=fun p hp=>by
  rw [List.all_eq_true] at hno';exact zdG.1 (by simpa using hno' p hp)
 refine zmU hg ks D rfl hc hf hAC hD1 hD2 hp (fun k hk=>?_) (fun k hk=>?_) (fun p hp' hne=>?_) (fun p hp' hno0=>?_) ?_
 ·rw [List.all_eq_true] at hdom;simpa using hdom k (zdE _ _ hk)
 ·rw [List.all_eq_true] at hdom';simpa using hdom' k (zdE _ _ hk)
 ·rcases zjW hos p hp' with ⟨h1,_⟩ | ⟨h1,h2,_⟩
  ·exact absurd (i8 h1) hne
  ·exact ⟨h1,fun k hk=>by rw [List.all_eq_true] at h2;exact zdG.1 (by simpa using h2 k hk)⟩
 ·rcases zjW hos p hp' with ⟨_,h1⟩ | ⟨_,_,h1⟩
  ·exact ⟨i8 h1,hno p hp'⟩
  ·exact absurd hno0 (zdG.1 h1)
 ·simp only [St.put,mK] at hr ⊢;exact hr
theorem aF {c:Call} {fop:Operand} {f:FuncId} {caps:List V} {cargs avs:List V} {m1:Nat->Ob} {rv:V} {u:List (Nat × Ob)} {fp:List Nat} (ks:List Nat) (hAC:AC P f cargs aZ rv aZ)
  (hr:Run P n ops K r ((ix,⟨some d,.call c,ty,pos,after,g⟩,⟨rv,u,fp⟩)::acc) ⟨upd s d rv,m1⟩)
  (hg:aL n ops ⟨some d,.call c,ty,pos,after,g⟩ ⟨s,m⟩=some true:=by rfl)
  (hc:c.callee=.value fop:=by rfl) (hf:ev n s fop=.fn f caps:=by conv=>lhs;whnf)
  (hav:c.args.toList.map (ev n s)++caps=avs:=by repeat (first | exact znk | (apply zlm;conv=>lhs;whnf)))
  (hu:fzU m ks=u:=by repeat (first | exact xB | (apply tV;focus ((conv=>lhs;whnf);done)) | (apply tU;focus ((conv=>lhs;whnf);done))))
  (hm1:app m u=m1:=by simp only [app];rfl)
  (hp:zaR m1 (fun k=>k) ks aZ avs cargs:=by repeat (first | exact zkT | refine zjb (by first | exact zqS rfl | exact zrF rfl rfl | exact zo7 rfl rfl rfl) ?_))
  (hfp:jI 0 (ev n s) (.call c)++ks=fp:=by rfl):Run P n ops K ((⟨some d,.call c,ty,pos,after,g⟩,ix)::r) acc ⟨s,m⟩ :=
 zte ks hg rfl hc hf hav hu hm1 hAC hp hfp hr
end
section
variable {P:Program} {C:Cx} {n:Nat} {Q:Exit->St->Prop} {s:Nat->V} {m:Nat->Ob} {c:Code}
theorem aM {α:Type} {row:α->List T} {l:List α} (t:Nat) (h:(l.length:Int)<=9223372036854775807->AWP P C n c Q ⟨s,m⟩) (hs:s t=.t (.sl (l.map row)):=by conv=>lhs;whnf) (ht:t < n:=by decide):AWP P C n c Q ⟨s,m⟩:=by
 rintro a w ⟨G,X,hM,hd,hsz,hv⟩;refine h ?_ a w ⟨G,X,hM,hd,hsz,hv⟩;have:V.Is G X (s t) _:=hv t ht;rw [hs,V.Is,T.Is] at this;obtain ⟨A,c,sz,_,h1,h2,_⟩:=this;rw [List.length_map] at h1;unfold maxLen at h2;omega
theorem z7 {α:Type} {row:α->List T} {l:List α} {e:TypeId} {md:Bool} (t q:Nat) (h:(l.length:Int)<=9223372036854775807->AWP P C n c Q ⟨s,m⟩) (hs:s t=.ar q:=by conv=>lhs;whnf) (hm:m q=.arr (l.map row) e md:=by conv=>lhs;whnf) (ht:t < n:=by decide):AWP P C n c Q ⟨s,m⟩:=by
 rintro a w ⟨G,X,hM,hd,hsz,hv⟩;refine h ?_ a w ⟨G,X,hM,hd,hsz,hv⟩;have hq:V.Is G X (s t) _:=hv t ht;rw [hs,V.Is] at hq;have:=hM.ob q _ hq;replace this:Ob.Ok P G X w (m q) _:=this;rw [hm] at this;obtain ⟨xs,i,_,hown,_⟩:=this;rcases hown.2 with ⟨_,h0⟩ | ⟨g,cap,cur,_,_,h1,h2,_⟩
 ·rw [List.length_map] at h0;omega
 ·rw [List.length_map] at h1;unfold maxLen at h2;omega
theorem winc {i k:Int} (h:decide (i < k)=true) (hk:k<=9223372036854775807) (h0:-9223372036854775808<=i):IntKind.i64.wrap (i+1)=i+1:=by
 have:=of_decide_eq_true h;exact IntWalk.i64_in _ (by omega)
theorem zqA {b e:Nat} {x:TypeInfo} (hb:qE (m b)=true) (he:P.info? e=some x) (s':Nat->V) (hs:∀ i,s' i=s i∨(s i=.nl/\s' i=.ar b)):zqo P C n ⟨s,m⟩ ⟨s',upd m b (.arr [] e true)⟩:=by
 rintro a w ⟨G,X,hM,hd,hsz,ht⟩;replace hM:Mem P C m w G X:=hM;replace ht:∀ t,t < n->V.Is G X (s t) (a.eval (.tmp t)):=ht;have hb:=i8 hb;have hXb:X b=none:=(hM.free b).2 hb;refine ⟨G,upd X b (some (.slice none 0 0)),⟨hM.gle,hM.gold,hM.gok,hM.keeps,?_,?_,?_,?_,?_,fun k y hk=>jO hXb k y (hM.old k y hk)⟩,hd,hsz,?_⟩
 ·intro k y hy;by_cases hk:k=b
  ·subst hk;simp only [aE] at hy ⊢;cases hy;exact ⟨[],x,he,zbo w e x.size none,by rw [T.Rows];trivial,fun a n c hx=>by cases hx⟩
  ·rw [aJ _ _ _ hk] at hy;simp only [aJ _ _ _ hk];exact (hM.ob k y hy).mono (Gle.refl G) (jO hXb) (fun _ _=>rfl) (fun _ _=>rfl)
 ·intro k;by_cases hk:k=b
  ·subst hk;simp [aE]
  ·simp only [aJ _ _ _ hk];exact hM.free k
 ·intro k k' y y' bl hy hy' h1 h2;by_cases hk:k=b
  ·subst hk;rw [aE] at hy;cases hy;simp [aE,Ob.has] at h1
  ·by_cases hk':k'=b
   ·subst hk';rw [aE] at hy';cases hy';simp [aE,Ob.has] at h2
   ·rw [aJ _ _ _ hk] at hy;rw [aJ _ _ _ hk'] at hy';simp only [aJ _ _ _ hk] at h1;simp only [aJ _ _ _ hk'] at h2;exact hM.apart k k' y y' bl hy hy' h1 h2
 ·intro k y bl hy h1;by_cases hk:k=b
  ·subst hk;rw [aE] at hy;cases hy;simp [aE,Ob.has] at h1
  ·rw [aJ _ _ _ hk] at hy;simp only [aJ _ _ _ hk] at h1;exact hM.mine k y bl hy h1
 ·intro k y hy;by_cases hk:k=b
  ·subst hk;rw [aE] at hy;cases hy;rfl
  ·rw [aJ _ _ _ hk] at hy;exact hM.cell k y hy
 ·intro t htn;rcases hs t with h | ⟨h1,h2⟩
  ·simp only [h];exact V.Is.mono (Gle.refl G) (jO hXb) _ _ (ht t htn)
  ·simp only [h2];have:=ht t htn;rw [h1,V.Is] at this;rw [V.Is,aE,this]
theorem zpi {x:TypeInfo} (t b e:Nat) (he:P.info? e=some x) (h:AWP P C n c Q ⟨upd s t (.ar b),upd m b (.arr [] e true)⟩) (hs:s t=.nl:=by conv=>lhs;whnf) (hb:qE (m b)=true:=by rfl):AWP P C n c Q ⟨s,m⟩ :=
 lX (zqA hb he _ (fun i=>by
  by_cases hi:i=t
  ·subst hi;exact .inr ⟨hs,aE _ _ _⟩
  ·exact .inl (aJ _ _ _ hi))) h
end
end Go.Abs
namespace Go.Abs
section
variable {P:Program} {n:Nat}
theorem zlc {m:Nat->Ob} {ks:List Nat}:zcB m ks [] []:=trivial
theorem zjk {m:Nat->Ob} {ks:List Nat} {v r:V} {vs rs:List V} (h:zkr m ks v r) (h2:zcB m ks vs rs):zcB m ks (v::vs) (r::rs):=⟨h,h2⟩
theorem zrN {m:Nat->Ob} {ks:List Nat} {v:V} {t:T} (h1:toT m v=some t) (h2:(fz v).all (fun k=>ks.elem k)=true):zkr m ks v (.t t):=.inr (.inl ⟨t,h1,rfl,fun k hk=>by
 rw [List.all_eq_true] at h2;simpa using h2 k hk⟩)
theorem zpb {m:Nat->Ob} {ks:List Nat} {vs cs:List V} {ts:List T} (h1:zaC m vs=some ts) (hc:ts.map .t=cs) (h2:(vs.flatMap fz).all (fun k=>ks.elem k)=true):zkr m ks (.ag vs) (.ag cs):=.inr (.inr ⟨vs,ts,rfl,h1,by rw [hc],fun k hk=>by
 rw [List.all_eq_true] at h2;simpa using h2 k hk⟩)
theorem bW {fn:Func} {rs vs:List V} {s':Nat->V} {m' m1:Nat->Ob} {u:List (Nat × Ob)} (L':List (Nat × Ob)) (ks:List Nat) (h1:zB P n ⟨s',m'⟩ fn.results.toList=some vs)
  (hu:fzU m' ks=u:=by repeat (first | exact xB | (apply tV;focus ((conv=>lhs;whnf);done)) | (apply tU;focus ((conv=>lhs;whnf);done))))
  (hm1:app m' u=m1:=by simp only [app];rfl)
  (h2:zcB m1 ks vs rs:=by repeat (first | exact zlc | refine zjk (by first | exact .inl rfl | exact zrN rfl rfl | exact zpb rfl rfl rfl) ?_))
  (ho:zqp m1 L':=by repeat (first | exact zgS | refine zdR (by conv=>lhs;whnf) (by rfl) ?_))
  (hi:L'.all (fun p=>p.2.ids.all (fun j=>(L'.map (·.1)).elem j))=true:=by rfl)
  (hr:(V.idsL rs).all (fun k=>(L'.map (·.1)).elem k)=true:=by rfl):zrZ P n fn rs (cR L') ⟨s',m'⟩:=by
 subst hu;subst hm1;have hspec:∀ k,k∈L'.map (·.1)->cR L' k=app m' (fzU m' ks) k:=fun k hk=>zla ho k hk
 have hids:∀ (l:List (Nat × Ob)) (k:Nat),k∈l.map (·.1)->∃ p∈l,p.1=k/\cR l k=p.2:=by
  intro l;induction l with
  | nil=>intro k hk;cases hk
  | cons p l ih =>
    intro k hk;obtain ⟨j,o⟩:=p;by_cases hkj:k=j
    ·exact ⟨(j,o),by simp,hkj.symm,by rw [eX,if_pos hkj]⟩
    ·obtain ⟨p,h1,h2,h3⟩:=ih k (by simp [hkj] at hk;simpa using hk);exact ⟨p,by simp [h1],h2,by rw [eX,if_neg hkj,h3]⟩
 refine ⟨vs,ks,L'.map (·.1),h1,h2,fun k=>?_,fun k hk j hj=>?_,fun k hk=>?_⟩
 ·split
  ·rename_i h;exact hspec k h
  ·rename_i h;cases ho':cR L' k with
   | no=>rfl
   | _=>exact absurd (zdE L' k (by rw [ho'];simp)) h
 ·rw [<- hspec k hk] at hj;obtain ⟨p,hp,_,he⟩:=hids L' k hk;rw [he] at hj;rw [List.all_eq_true] at hi;have:=hi p hp;rw [List.all_eq_true] at this;simpa using this j hj
 ·rw [List.all_eq_true] at hr;simpa using hr k hk
theorem zq1 {L L':List (Nat × Ob)} (h:(L.map (·.1)).all (fun k=>!qE (cR L' k))=true):∀ k,cR L k≠.no->cR L' k≠.no:=fun k hk=>by
 rw [List.all_eq_true] at h;exact zdG.1 (by simpa using h k (zdE L k hk))
end
end Go.Abs
namespace Go.Abs
theorem bB {i k:Int} (h:decide (i < k)=true) (hk:k<=9223372036854775807) (h0:0<=i):IntKind.i64.wrap (i+1)=i+1:=winc h hk (by omega)
section
variable {P:Program} {C:Cx} {n:Nat} {Q:Exit->St->Prop} {s:Nat->V} {m:Nat->Ob}
variable {α:Type} {asg och gar:List Nat} {sl:Nat × α->List (Nat × V)} {ob:Nat × α->List (Nat × Ob)} {Inv:Nat × α->Prop} {b:α} {s0:Nat->V} {m0:Nat->Ob} {id:Nat}
end
end Go.Abs
end
section
set_option linter.unusedSimpArgs false
set_option linter.unusedVariables false
namespace Go.Abs
section
variable {P:Program} {C:Cx} {n:Nat} {s:Nat->V} {m:Nat->Ob} {w:World} {G:Im} {X:Xm}
theorem Mem.alias (hM:Mem P C m w G X) {a b:Nat} {es:List (List T)} {e:TypeId} {md:Bool} {v:Value} (ha:m a=.arr es e md) (hX:X a=some v) (hb:m b=.no):Mem P C (upd (upd m a .dead) b (.arr es e md)) w G (upd X b (some v))/\Xle X (upd X b (some v)):=by
 have hXb:X b=none:=(hM.free b).2 hb;have hab:a≠b:=fun h=>by rw [h,hb] at ha;cases ha
 have hle:=jO (X:=X) (k:=b) (x:=v) hXb;have hmo:∀ k,k≠b->k≠a->upd (upd m a Ob.dead) b (.arr es e md) k=m k:=fun k h1 h2=>by rw [aJ _ _ _ h1,aJ _ _ _ h2]
 have hma:upd (upd m a Ob.dead) b (.arr es e md) a=.dead:=by rw [aJ _ _ _ hab,aE]
 have hmb:upd (upd m a Ob.dead) b (.arr es e md) b=.arr es e md:=aE _ _ _;refine ⟨⟨hM.gle,hM.gold,hM.gok,hM.keeps,?_,?_,?_,?_,?_,fun k y hk=>hle k y (hM.old k y hk)⟩,hle⟩
 ·intro k x hk;by_cases h1:k=b
  ·subst h1;rw [aE] at hk;cases hk;rw [hmb];have:=hM.ob a v hX;rw [ha] at this;exact this
  ·rw [aJ _ _ _ h1] at hk;by_cases h2:k=a
   ·subst h2;rw [hma];trivial
   ·rw [hmo k h1 h2];exact (hM.ob k x hk).mono (Gle.refl G) hle (fun _ _=>rfl) (fun _ _=>rfl)
 ·intro k;by_cases h1:k=b
  ·subst h1;rw [hmb,aE];simp
  ·rw [aJ _ _ _ h1];by_cases h2:k=a
   ·subst h2;rw [hma,hX];simp
   ·rw [hmo k h1 h2];exact hM.free k
 ·intro k k' x x' bl hk hk' B1 B2;have red:∀ k x,upd X b (some v) k=some x->(upd (upd m a Ob.dead) b (.arr es e md) k).has w x bl->∃ k0,X k0=some x/\(m k0).has w x bl/\((k=b/\k0=a)∨(k≠b/\k≠a/\k0=k)):=by
   intro k x hk hbk;by_cases h1:k=b
   ·subst h1;rw [aE] at hk;cases hk;rw [hmb] at hbk;exact ⟨a,hX,by rw [ha];exact hbk,.inl ⟨rfl,rfl⟩⟩
   ·rw [aJ _ _ _ h1] at hk;by_cases h2:k=a
    ·subst h2;rw [hma] at hbk;exact (Ob.has_dead hbk).elim
    ·rw [hmo k h1 h2] at hbk;exact ⟨k,hk,hbk,.inr ⟨h1,h2,rfl⟩⟩
  obtain ⟨k1,q1,q2,q3⟩:=red k x hk B1;obtain ⟨k2,r1,r2,r3⟩:=red k' x' hk' B2;have:=hM.apart k1 k2 x x' bl q1 r1 q2 r2;rcases q3 with ⟨rfl,rfl⟩ | ⟨h1,h2,rfl⟩<;>rcases r3 with ⟨rfl,rfl⟩ | ⟨h3,h4,rfl⟩
  ·rfl
  ·exact absurd this.symm h4
  ·exact absurd this h2
  ·exact this
 ·intro k x bl hk hbk;by_cases h1:k=b
  ·subst h1;rw [aE] at hk;cases hk;rw [hmb] at hbk;exact hM.mine a v bl hX (by rw [ha];exact hbk)
  ·rw [aJ _ _ _ h1] at hk;by_cases h2:k=a
   ·subst h2;rw [hma] at hbk;exact (Ob.has_dead hbk).elim
   ·rw [hmo k h1 h2] at hbk;exact hM.mine k x bl hk hbk
 ·intro k x hk;by_cases h1:k=b
  ·subst h1;rw [aE] at hk;cases hk;exact hM.cell a v hX
  ·rw [aJ _ _ _ h1] at hk;exact hM.cell k x hk
theorem Mem.nilArr (hM:Mem P C m w G X) {b e:Nat} {x:TypeInfo} (hb:m b=.no) (he:P.info? e=some x):Mem P C (upd m b (.arr [] e true)) w G (upd X b (some (.slice none 0 0)))/\Xle X (upd X b (some (.slice none 0 0))):=by
 have hXb:X b=none:=(hM.free b).2 hb;refine ⟨⟨hM.gle,hM.gold,hM.gok,hM.keeps,?_,?_,?_,?_,?_,fun k y hk=>jO hXb k y (hM.old k y hk)⟩,jO hXb⟩
 ·intro k y hy;by_cases hk:k=b
  ·subst hk;rw [aE] at hy ⊢;cases hy;exact ⟨[],x,he,zbo w e x.size none,by rw [T.Rows];trivial,fun a n c hx=>by cases hx⟩
  ·rw [aJ _ _ _ hk] at hy ⊢;exact (hM.ob k y hy).mono (Gle.refl G) (jO hXb) (fun _ _=>rfl) (fun _ _=>rfl)
 ·intro k;by_cases hk:k=b
  ·subst hk;simp [aE]
  ·rw [aJ _ _ _ hk,aJ _ _ _ hk];exact hM.free k
 ·intro k k' y y' bl hy hy' h1 h2;by_cases hk:k=b
  ·subst hk;rw [aE] at hy;cases hy;rw [aE] at h1;simp [Ob.has] at h1
  ·by_cases hk':k'=b
   ·subst hk';rw [aE] at hy';cases hy';rw [aE] at h2;simp [Ob.has] at h2
   ·rw [aJ _ _ _ hk] at hy h1;rw [aJ _ _ _ hk'] at hy' h2;exact hM.apart k k' y y' bl hy hy' h1 h2
 ·intro k y bl hy h1;by_cases hk:k=b
  ·subst hk;rw [aE] at hy;cases hy;rw [aE] at h1;simp [Ob.has] at h1
  ·rw [aJ _ _ _ hk] at hy h1;exact hM.mine k y bl hy h1
 ·intro k y hy;by_cases hk:k=b
  ·subst hk;rw [aE] at hy;cases hy;rfl
  ·rw [aJ _ _ _ hk] at hy;exact hM.cell k y hy
def zow (v v':V):List V->List V->Prop
 | [],[]=>True
 | c::cs,d::ds=>(c=d∨(c=v/\d=v'))/\zow v v' cs ds
 | _,_=>False
theorem zjY {v v':V}:zow v v' [] []:=trivial
theorem zhM {v v' c:V} {cs ds:List V} (h:zow v v' cs ds):zow v v' (c::cs) (c::ds):=⟨.inl rfl,h⟩
theorem zjZ {v v':V} {cs ds:List V} (h:zow v v' cs ds):zow v v' (v::cs) (v'::ds):=⟨.inr ⟨rfl,rfl⟩,h⟩
theorem zph {G:Im} {X:Xm} {v v':V} (hv:∀ x,V.Is G X v x->V.Is G X v' x):∀ {cs ds:List V} {xs:List Value},zow v v' cs ds->V.IsL G X cs xs->V.IsL G X ds xs
 | [],[],_,_,h=>h
 | c::cs,d::ds,xs,h,hi=>by
   rw [V.IsL] at hi ⊢;obtain ⟨y,ys,h1,h2,h3⟩:=hi;refine ⟨y,ys,h1,?_,zph hv h.2 h3⟩;rcases h.1 with rfl | ⟨rfl,rfl⟩
   ·exact h2
   ·exact hv y h2
 | [],_::_,_,h,_=>h.elim
 | _::_,[],_,h,_=>h.elim
theorem Mem.box_re (hM:Mem P C m w G X) {k:Nat} {cs ds:List V} {v v':V} (hk:m k=.box cs) (hv:∀ x,V.Is G X v x->V.Is G X v' x) (hr:zow v v' cs ds):Mem P C (upd m k (.box ds)) w G X :=
 Mem.less hM k (.box ds) (fun x hx hok=>by
  rw [hk] at hok;obtain ⟨b,cur,e,h1,h2,h3,h4⟩:=hok;exact ⟨b,cur,e,h1,h2,zph hv hr h3,h4⟩) (fun x b h=>by rw [hk];cases x<;>first | exact h | (rename_i a;cases a<;>exact h)) ⟨fun h=>by simp at h,fun h=>by rw [hk] at h;cases h⟩
variable {Q:Exit->St->Prop} {c:Code}
theorem i9 {es:List (List T)} {e:TypeId} {md:Bool} {cs:List V} (k a b:Nat) (ds:List V) (h:AWP P C n c Q ⟨s,upd (upd (upd m a .dead) b (.arr es e md)) k (.box ds)⟩)
  (hk:m k=.box cs:=by conv=>lhs;whnf) (ha:m a=.arr es e md:=by conv=>lhs;whnf) (hb:qE (m b)=true:=by rfl) (hr:zow (.ar a) (.ar b) cs ds:=by repeat (first | exact zjY | refine zjZ ?_ | refine zhM ?_)):AWP P C n c Q ⟨s,m⟩:=by
 refine lX ?_ h;rintro x w ⟨G,X,hM,hd,hsz,ht⟩;replace hM:Mem P C m w G X:=hM;cases hX:X a with
 | none=>rw [(hM.free a).1 hX] at ha;cases ha
 | some v =>
   have hb':=i8 hb;obtain ⟨hM',hle⟩:=hM.alias ha hX hb';have hka:k≠a:=fun h=>by rw [h,ha] at hk;cases hk
   have hkb:k≠b:=fun h=>by rw [h,hb'] at hk;cases hk
   refine ⟨G,_,hM'.box_re (k:=k) (cs:=cs) (by rw [aJ _ _ _ hkb,aJ _ _ _ hka];exact hk) (fun y hy=>?_) hr,hd,hsz,fun t htn=>V.Is.mono (Gle.refl G) hle _ _ (ht t htn)⟩;rw [V.Is] at hy ⊢;have hab:a≠b:=fun h=>by rw [h,hb'] at ha;cases ha
   rw [aJ _ _ _ hab,hX] at hy;rw [aE];exact hy
theorem pS {x:TypeInfo} {cs:List V} (k b e:Nat) (ds:List V) (he:P.info? e=some x) (h:AWP P C n c Q ⟨s,upd (upd m b (.arr [] e true)) k (.box ds)⟩)
  (hk:m k=.box cs:=by conv=>lhs;whnf) (hb:qE (m b)=true:=by rfl) (hr:zow .nl (.ar b) cs ds:=by repeat (first | exact zjY | refine zhM ?_ | refine zjZ ?_)):AWP P C n c Q ⟨s,m⟩:=by
 refine lX ?_ h;rintro y w ⟨G,X,hM,hd,hsz,ht⟩;replace hM:Mem P C m w G X:=hM;have hb':=i8 hb;obtain ⟨hM',hle⟩:=hM.nilArr hb' he;have hkb:k≠b:=fun h=>by rw [h,hb'] at hk;cases hk
 refine ⟨G,_,hM'.box_re (k:=k) (cs:=cs) (by rw [aJ _ _ _ hkb];exact hk) (fun y hy=>?_) hr,hd,hsz,fun t htn=>V.Is.mono (Gle.refl G) hle _ _ (ht t htn)⟩;rw [V.Is] at hy;rw [V.Is,aE,hy]
end
end Go.Abs
end
section
set_option linter.unusedSimpArgs false
set_option linter.unusedVariables false
namespace Go.Abs
def zaY (N asg:List Nat) (s:Nat->V):Prop:=∀ t,asg.elem t=false->(s t).ids.all (fun j=>!N.elem j)=true
def zaZ (N och:List Nat) (m:Nat->Ob):Prop:=∀ k,och.elem k=false->(m k).ids.all (fun j=>!N.elem j)=true
theorem zjl {asg:List Nat} {s:Nat->V}:zaY [] asg s:=fun t _=>by simp
theorem zjm {och:List Nat} {m:Nat->Ob}:zaZ [] och m:=fun t _=>by simp
theorem zn7 {N asg:List Nat} {s:Nat->V} {k:Nat} {v:V} (h1:(asg.elem k||v.ids.all (fun j=>!N.elem j))=true) (h:zaY N asg s):zaY N asg (upd s k v):=fun t ht=>by
 unfold upd;split
 ·rename_i e;subst e;rw [ht] at h1;simpa using h1
 ·exact h t ht
theorem zn8 {N och:List Nat} {m:Nat->Ob} {k:Nat} {v:Ob} (h1:(och.elem k||v.ids.all (fun j=>!N.elem j))=true) (h:zaZ N och m):zaZ N och (upd m k v):=fun t ht=>by
 unfold upd;split
 ·rename_i e;subst e;rw [ht] at h1;simpa using h1
 ·exact h t ht
theorem zhR {N asg:List Nat}:∀ {sl:List (Nat × V)},sl.all (fun p=>asg.elem p.1||p.2.ids.all (fun j=>!N.elem j))=true->zaY N asg (zz sl)
 | [],_,t,_=>by simp [zz,V.ids]
 | (k,v)::r,h,t,ht=>by
   rw [List.all_cons,Bool.and_eq_true] at h;rw [tJ];split
   ·rename_i e;subst e;have:=h.1;simp only at this;rw [ht] at this;simpa using this
   ·exact zhR h.2 t ht
theorem zeJ {N och:List Nat}:∀ {sl:List (Nat × Ob)},sl.all (fun p=>och.elem p.1||p.2.ids.all (fun j=>!N.elem j))=true->zaZ N och (cR sl)
 | [],_,t,_=>by simp [cR,Ob.ids]
 | (k,v)::r,h,t,ht=>by
   rw [List.all_cons,Bool.and_eq_true] at h;rw [eX];split
   ·rename_i e;subst e;have:=h.1;simp only at this;rw [ht] at this;simpa using this
   ·exact zeJ h.2 t ht
theorem zlx {N asg b:List Nat} {sl:List (Nat × V)} {s:Nat->V} (h1:sl.all (fun p=>asg.elem p.1||p.2.ids.all (fun j=>!N.elem j))=true) (h:zaY N asg s):zaY N asg (frame b (zz sl) s):=fun t ht=>by
 rw [lA];cases b.elem t with
 | true=>exact zhR h1 t ht
 | false=>exact h t ht
theorem zly {N och b:List Nat} {sl:List (Nat × Ob)} {m:Nat->Ob} (h1:sl.all (fun p=>och.elem p.1||p.2.ids.all (fun j=>!N.elem j))=true) (h:zaZ N och m):zaZ N och (frame b (cR sl) m):=fun t ht=>by
 rw [lA];cases b.elem t with
 | true=>exact zeJ h1 t ht
 | false=>exact h t ht
theorem zmk {N asg:List Nat} {args:List V} (h:args.all (fun v=>v.ids.all (fun j=>!N.elem j))=true):zaY N asg (fun t=>args.getD t .jk):=fun t _=>by
 show ((args.getD t .jk).ids.all (fun j=>!N.elem j))=true
 rw [List.getD_eq_getElem?_getD];cases ht:args[t]? with
 | none=>simp [V.ids]
 | some v =>
   rw [List.all_eq_true] at h;exact h v (List.mem_of_getElem? ht)
theorem zpR {N och:List Nat}:zaZ N och aZ:=fun t _=>by simp [aZ,Ob.ids]
section
variable {P:Program} {C:Cx} {n:Nat} {Q:Exit->St->Prop} {s:Nat->V} {m:Nat->Ob}
theorem gY {N:List Nat} {os:Nat->Ob} (hC:∀ k,C.X0 k≠none->os k≠.no) (h:N.all (fun k=>qE (os k))=true):∀ k,N.elem k=true->C.X0 k=none:=fun k hk=>by
 rw [List.all_eq_true] at h;have:=i8 (h k (by simpa using hk));cases hx:C.X0 k with
 | none=>rfl
 | some y=>exact absurd this (hC k (by rw [hx];simp))
def zqj (R:List (Nat × Nat)) (och gar N:List Nat):Bool :=
 R.all (fun p=>och.elem p.1&&N.elem p.1)&&(och.map (qOf R)).all (fun k=>(och++gar).elem k)&&decide ((och.map (qOf R)).Nodup)
def zha {α:Type} (asg och gar N:List Nat) (μ:α->Nat) (sl:α->List (Nat × V)) (ob:α->List (Nat × Ob)) (Inv:α->Prop) (s:Nat->V) (m:Nat->Ob) (a:α) (Q:Exit->St->Prop):Exit->St->Prop
 | .normal,st=>∃ a' R,zqj R och gar N=true/\Inv a'/\μ a' < μ a/\Off asg st.s s/\Off (och++gar) st.m m/\zou st.s och gar (qOf R) (sl a')/\zov st.m och gar (qOf R) (ob a')
 | e,st=>Q e st
theorem zju {α:Type} {c:Code} (asg och gar N:List Nat) (μ:α->Nat) (sl:α->List (Nat × V)) (ob:α->List (Nat × Ob)) (Inv:α->Prop) (a0:α) (h0:Inv a0)
  (hga:gar.all (fun k=>qE (m k))=true) (hdis:och.all (fun k=>!gar.elem k)=true) (hoc:∀ a,(ob a).map (·.1)=och) (hs:zrY s (sl a0)) (ho:zqp m (ob a0)) (hNC:∀ k,N.elem k=true->C.X0 k=none) (hNs:zaY N asg s) (hNm:zaZ N och m)
  (round:∀ a,Inv a->AWP P C n c (zha asg och gar N μ sl ob Inv s m a Q) ⟨frame asg (zz (sl a)) s,frame och (cR (ob a)) m⟩):AWP P C n (.loop c) Q ⟨s,m⟩:=by
 rintro a w ⟨G,X,hM,hd,hsz,ht⟩;have hgar:∀ k,gar.elem k=true->m k=.no:=fun k hk=>by
  rw [List.all_eq_true] at hga;exact i8 (hga k (by simpa using hk))
 replace hM:Mem P C m w G X:=hM;replace ht:∀ t,t < n->V.Is G X (s t) (a.eval (.tmp t)):=ht;have hdis':∀ k,och.elem k=true->gar.elem k=false:=fun k hk=>by
  rw [List.all_eq_true] at hdis;have:=hdis k (by simpa using hk);simpa using this
 have f1:∀ i,i < n->∀ k∈(s i).ids,m k≠.no:=fun i hi k hk hn=>V.Is.dom _ _ (ht i hi) k hk ((hM.free k).2 hn)
 have f2:∀ k,∀ j∈(m k).ids,m j≠.no:=fun k j hj hn=>by
  have hn:=(hM.free j).2 hn;cases hX:X k with
  | none=>rw [(hM.free k).1 hX] at hj;cases hj
  | some x =>
    have hok:=hM.ob k x hX;cases hmk:m k with
    | box cs =>
      rw [hmk] at hok hj;obtain ⟨b,cur,e,_,_,h3,_⟩:=hok;exact absurd hn (V.IsL.dom _ _ h3 j hj)
    | dah es e hs =>
      rw [hmk] at hok hj;obtain ⟨_,_,h0⟩:=hok;rw [Ob.ids] at hj;obtain ⟨z,hz,rfl⟩:=List.mem_map.1 hj;obtain ⟨a,n,c,inf,y,_,_,h5,_⟩:=h0 z hz;rw [h5] at hn;cases hn
    | _=>rw [hmk] at hj;cases hj
 have f3:∀ k,C.X0 k≠none->m k≠.no:=fun k hk hn=>by
  have hn:=(hM.free k).2 hn;cases hx:C.X0 k with
  | none=>exact absurd hx hk
  | some x=>rw [hM.old k x hx] at hn;cases hn
 refine wp_loop_ghost (fun k a w=>∃ b,Inv b/\μ b=k/\Rel P C n ⟨frame asg (zz (sl b)) s,frame och (cR (ob b)) m⟩ a w) (μ a0) ⟨a0,h0,rfl,G,X,?_,hd,hsz,?_⟩ ?_
 ·have e:frame och (cR (ob a0)) m=m:=by
   funext k;rw [lA];cases hk:och.elem k with
   | false=>rfl
   | true=>exact zla ho k (by rw [hoc];simpa using hk)
  simp only;rw [e];exact hM
 ·intro t htn;simp only [lA];cases hk:asg.elem t with
  | false=>exact ht t htn
  | true =>
    rcases zpQ hs t with h | h
    ·simp only [cond_true];rw [h,V.Is];trivial
    ·simp only [cond_true];rw [h];exact ht t htn
 ·rintro k a' w' ⟨b,hb,rfl,hR⟩;refine wp_mono (round b hb a' w' hR) ?_;rintro e a2 w2 ⟨st',hq,hR'⟩;cases e with
  | normal =>
    obtain ⟨b',R,hok,hb',hlt,o1,o2,h3,h4⟩:=hq;refine ⟨μ b',hlt,b',hb',rfl,?_⟩;obtain ⟨G',X',hM',hd',hsz',ht'⟩:=hR';simp only [zqj,Bool.and_eq_true,List.all_eq_true,decide_eq_true_eq] at hok;obtain ⟨⟨hR1,hR2⟩,hR3⟩:=hok;have hin:∀ k,och.elem k=true->(och++gar).elem (qOf R k)=true:=fun k hk=>hR2 _ (List.mem_map_of_mem (by simpa using hk))
    have hinj:∀ k k',och.elem k=true->och.elem k'=true->qOf R k=qOf R k'->k=k':=fun k k' hk hk' he=>by
     simp at hk hk';exact zhB hR3 hk hk' he
    have hfix:∀ k,N.elem k=false->qOf R k=k:=fun k hk=>zhc (fun p hp e=>by
     have:=(hR1 p hp).2;rw [e,hk] at this;cases this)
    have hfix2:∀ k,och.elem k=false->qOf R k=k:=fun k hk=>zhc (fun p hp e=>by
     have:=hR1 p hp;rw [e,hk] at this;cases this.1)
    -- the new places of the objects
    let Y:Xm:=fun k=>bif och.elem k then X' (qOf R k) else bif gar.elem k then none else X' k
    have Yo:∀ k,och.elem k=true->Y k=X' (qOf R k):=fun k hk=>by simp only [Y,hk,cond_true]
    have Yn:∀ k,och.elem k=false->gar.elem k=false->Y k=X' k:=fun k hk hg=>by simp only [Y,hk,hg,cond_false]
    have Yq:∀ k,zcp och gar k=true->Y k=X' (qOf R k):=fun k hk=>by
     cases ho':och.elem k with
     | true=>exact Yo k ho'
     | false =>
       rw [zcp,ho'] at hk;rw [Yn k ho' (by simpa using hk),hfix2 k ho']
    have Yd:∀ k,N.elem k=false->m k≠.no->Y k=X' k:=fun k hkN hk=>by
     cases ho':och.elem k with
     | true=>rw [Yo k ho',hfix k hkN]
     | false=>exact Yn k ho' (by
       cases hg:gar.elem k with
       | false=>rfl
       | true=>exact absurd (hgar k hg) hk)
    have Ys:∀ k x,Y k=some x->zcp och gar k=true:=fun k x hx=>by
     rw [zcp];cases ho':och.elem k with
     | true=>rfl
     | false =>
       cases hg:gar.elem k with
       | false=>rfl
       | true=>simp only [Y,ho',hg,cond_false,cond_true] at hx;cases hx
    have M':∀ k,zcp och gar k=true->st'.m (qOf R k)=((frame och (cR (ob b')) m) k).ren (qOf R)/\∀ j∈((frame och (cR (ob b')) m) k).ids,Y j=X' (qOf R j):=fun k hk=>by
     cases ho':och.elem k with
     | true =>
       obtain ⟨q1,q2⟩:=zhG h4 k (by rw [hoc];simpa using ho');rw [lA,ho',cond_true];rw [List.all_eq_true] at q2;exact ⟨q1,fun j hj=>Yq j (q2 j hj)⟩
     | false =>
       rw [zcp,ho'] at hk;rw [lA,ho',cond_false,hfix2 k ho',o2 k (by simp at ho' hk ⊢;exact ⟨ho',hk⟩)];have hfr:∀ j∈(m k).ids,N.elem j=false:=fun j hj=>by
        have:=hNm k ho';rw [List.all_eq_true] at this;simpa using this j hj
       refine ⟨?_,fun j hj=>by rw [Yd j (hfr j hj) (f2 k j hj),hfix j (hfr j hj)]⟩;have:∀ j∈(m k).ids,qOf R j=j:=fun j hj=>hfix j (hfr j hj)
       cases hmk:m k with
       | box cs =>
         rw [hmk,Ob.ids] at this;rw [Ob.ren,V.renL_congr cs this]
       | dah es e hs =>
         rw [hmk,Ob.ids] at this;rw [Ob.ren,zpg (fun z hz=>this _ (List.mem_map_of_mem (f:=fun h:Nat × Nat × Nat=>h.2.2) hz))]
       | _=>rfl
    have inj:∀ k k',zcp och gar k=true->zcp och gar k'=true->qOf R k=qOf R k'->k=k':=fun k k' hk hk' he=>by
     cases h1:och.elem k with
     | true =>
       cases h2:och.elem k' with
       | true=>exact hinj k k' h1 h2 he
       | false =>
         have:=hin k h1;rw [he,hfix2 k' h2] at this;rw [zcp,h2] at hk';simp at this h2 hk';rcases this with h | h<;>contradiction
     | false =>
       cases h2:och.elem k' with
       | true =>
         have:=hin k' h2;rw [<- he,hfix2 k h1] at this;rw [zcp,h1] at hk;simp at this h1 hk;rcases this with h | h<;>contradiction
       | false=>rw [hfix2 k h1,hfix2 k' h2] at he;exact he
    refine ⟨G',Y,⟨hM'.gle,hM'.gold,hM'.gok,hM'.keeps,?_,?_,?_,?_,?_,?_⟩,hd',hsz',?_⟩
    ·intro k x hx;have hk:=Ys k x hx;obtain ⟨m1,m2⟩:=M' k hk;rw [Yq k hk] at hx;have:=hM'.ob _ x hx;rw [m1] at this;exact Ob.Ok_unren (fun j hj y hy=>by rw [m2 j hj];exact hy) this
    ·intro k;cases hk:zcp och gar k with
     | true =>
       obtain ⟨m1,_⟩:=M' k hk;rw [Yq k hk,hM'.free,m1,Ob.ren_no]
     | false =>
       simp only [zcp,Bool.or_eq_false_iff,Bool.not_eq_false'] at hk;simp only [Y,hk.1,hk.2,cond_false,cond_true,lA,true_iff];exact hgar k hk.2
    ·intro k k' x x' bl hx hx' B1 B2;have hk:=Ys k x hx;have hk':=Ys k' x' hx';rw [Yq k hk] at hx;rw [Yq k' hk'] at hx';refine inj k k' hk hk' (hM'.apart _ _ x x' bl hx hx' ?_ ?_)
     ·rw [(M' k hk).1,Ob.has_ren];exact B1
     ·rw [(M' k' hk').1,Ob.has_ren];exact B2
    ·intro k x bl hx B1;have hk:=Ys k x hx;rw [Yq k hk] at hx;exact hM'.mine _ x bl hx (by rw [(M' k hk).1,Ob.has_ren];exact B1)
    ·intro k x hx;have hk:=Ys k x hx;rw [Yq k hk] at hx;exact hM'.cell _ x hx
    ·intro k x hx;rw [Yd k (by
      cases hN:N.elem k with
      | false=>rfl
      | true=>rw [hNC k hN] at hx;cases hx) (f3 k (by rw [hx];simp))]
     exact hM'.old k x hx
    ·intro t htn;simp only [lA asg];cases hk:asg.elem t with
     | false =>
       have:=ht' t htn;rw [o1 t hk] at this;simp only [cond_false];have hfrs:∀ j∈(s t).ids,N.elem j=false:=fun j hj=>by
        have h0:=hNs t hk;rw [List.all_eq_true] at h0;simpa using h0 j hj
       have h9:=V.Is.ren (q:=fun k=>k) (Y:=Y) (s t) _ (fun j hj y hy=>by rw [Yd j (hfrs j hj) (f1 t htn j hj)];exact hy) this
       rwa [V.ren_id] at h9
     | true =>
       simp only [cond_true];rcases zhF h3 t with h | ⟨h,hi⟩
       ·rw [h,V.Is];trivial
       ·have:=ht' t htn;rw [h] at this;rw [List.all_eq_true] at hi;exact V.Is.unren _ _ (fun j hj y hy=>by rw [Yq j (hi j hj)];exact hy) this
  | _=>exact ⟨st',hq,hR'⟩
section
variable {α:Type} {asg och gar N:List Nat} {sl:Nat × α->List (Nat × V)} {ob:Nat × α->List (Nat × Ob)} {Inv:Nat × α->Prop} {b:α} {s0:Nat->V} {m0:Nat->Ob} {id:Nat}
theorem zhZ {st:St} {a:Nat × α} {μ:Nat × α->Nat} (h:Q (.exit id) st):zha asg och gar N μ sl ob Inv s0 m0 a Q (.exit id) st:=h
theorem zji {st:St} {a:Nat × α} {μ:Nat × α->Nat} (h:Q .ret st):zha asg och gar N μ sl ob Inv s0 m0 a Q .ret st:=h
theorem zs9 {fu:Nat} (a':Nat × α) (R:List (Nat × Nat)) (h1:Inv a') (h5:zou s och gar (qOf R) (sl a')) (h6:zov m och gar (qOf R) (ob a')) (h2:a'.1 < fu+1:=by first | exact Nat.lt_succ_self _ | (dsimp only;omega))
  (h3:Off asg s s0:=by repeat (first | exact vO _ _ _ | exact x6 _ _ | refine za1 rfl ?_ | refine za2 rfl ?_ | refine x5 rfl ?_)) (h4:Off (och++gar) m m0:=by repeat (first | exact vO _ _ _ | exact x6 _ _ | refine za1 rfl ?_ | refine za2 rfl ?_ | refine x5 rfl ?_)) (hR:zqj R och gar N=true:=by decide):zha asg och gar N (fun a=>a.1) sl ob Inv s0 m0 (fu+1,b) Q .normal ⟨s,m⟩ :=
 ⟨a',R,hR,h1,h2,h3,h4,h5,h6⟩
end
end
end Go.Abs
namespace Go.Abs
section
variable {P:Program} {C:Cx} {n:Nat} {Q:Exit->St->Prop} {s:Nat->V} {m:Nat->Ob} {c:Code}
theorem zl9 {es:List (List T)} (t:Nat) (h1:es=[]->AWP P C n c Q ⟨upd s t (.sn true (.sl es)),m⟩) (h2:AWP P C n c Q ⟨upd s t (.sn false (.sl es)),m⟩) (hs:s t=.t (.sl es):=by conv=>lhs;whnf) (ht:t < n:=by decide):AWP P C n c Q ⟨s,m⟩:=by
 rintro a w ⟨G,X,hM,hd,hsz,hv⟩;replace hv:∀ i,i < n->V.Is G X (s i) (a.eval (.tmp i)):=hv;have hq:=hv t ht;rw [hs,V.Is] at hq;have key:∀ b:Bool,V.Is G X (.sn b (.sl es)) (a.eval (.tmp t))->Rel P C n ⟨upd s t (.sn b (.sl es)),m⟩ a w:=fun b hb=>⟨G,X,hM,hd,hsz,fun i hi=>by
  by_cases hit:i=t
  ·subst hit;simp only [aE];exact hb
  ·simp only [aJ _ _ _ hit];exact hv i hi⟩
 have hq0:=hq;rw [T.Is] at hq;obtain ⟨A,cap,sz,hx,_,_,hor⟩:=hq;cases A with
 | none =>
   refine h1 ?_ a w (key true ?_)
   ·rcases hor with h | ⟨b,off,cs,h,_⟩
    ·exact h
    ·cases h
   ·rw [V.Is];exact ⟨hq0,none,_,_,hx,rfl⟩
 | some A =>
   refine h2 a w (key false ?_);rw [V.Is];exact ⟨hq0,some A,_,_,hx,rfl⟩
theorem vR {b:Bool} {y:T} (t:Nat) (h:AWP P C n c Q ⟨upd s t (.t y),m⟩) (hs:s t=.sn b y:=by conv=>lhs;whnf):AWP P C n c Q ⟨s,m⟩:=by
 refine lX ?_ h;rintro a w ⟨G,X,hM,hd,hsz,hv⟩;replace hv:∀ i,i < n->V.Is G X (s i) (a.eval (.tmp i)):=hv;refine ⟨G,X,hM,hd,hsz,fun i hi=>?_⟩;by_cases hit:i=t
 ·subst hit;have:=hv i hi;rw [hs,V.Is] at this;simp only [aE];rw [V.Is];exact this.1
 ·simp only [aJ _ _ _ hit];exact hv i hi
end
end Go.Abs
end
section
set_option linter.unusedSimpArgs false
set_option linter.unusedVariables false
namespace Go.Abs
section
variable {P:Program} {C:Cx} {n:Nat} {Q:Exit->St->Prop} {s:Nat->V} {m:Nat->Ob}
def zoB {α:Type} (asg och gar N:List Nat) (sl:α->List (Nat × V)) (ob:α->List (Nat × Ob)) (Inv:α->Prop) (s:Nat->V) (m:Nat->Ob) (Q:Exit->St->Prop):Exit->St->Prop
 | .normal,st=>∃ a' R,zqj R och gar N=true/\Inv a'/\Off asg st.s s/\Off (och++gar) st.m m/\zou st.s och gar (qOf R) (sl a')/\zov st.m och gar (qOf R) (ob a')
 | e,st=>Q e st
theorem zqL {α:Type} (asg och gar N:List Nat) (sl:α->List (Nat × V)) (ob:α->List (Nat × Ob))
  (hgar:∀ k,gar.elem k=true->m k=.no) (hoc:∀ a,(ob a).map (·.1)=och) (hNC:∀ k,N.elem k=true->C.X0 k=none) (hNs:zaY N asg s) (hNm:zaZ N och m)
  {a:Act} {w:World} (hR0:Rel P C n ⟨s,m⟩ a w) {st':St} {b':α} {R:List (Nat × Nat)} {a2:Act} {w2:World} (hok:zqj R och gar N=true) (o1:Off asg st'.s s) (o2:Off (och++gar) st'.m m) (h3:zou st'.s och gar (qOf R) (sl b')) (h4:zov st'.m och gar (qOf R) (ob b')) (hR':Rel P C n st' a2 w2) :
  Rel P C n ⟨frame asg (zz (sl b')) s,frame och (cR (ob b')) m⟩ a2 w2:=by
 obtain ⟨G,X,hM,hd,hsz,ht⟩:=hR0;obtain ⟨G',X',hM',hd',hsz',ht'⟩:=hR';replace hM:Mem P C m w G X:=hM;replace ht:∀ t,t < n->V.Is G X (s t) (a.eval (.tmp t)):=ht;have f1:∀ i,i < n->∀ k∈(s i).ids,m k≠.no:=fun i hi k hk hn=>V.Is.dom _ _ (ht i hi) k hk ((hM.free k).2 hn)
 have f2:∀ k,∀ j∈(m k).ids,m j≠.no:=fun k j hj hn=>by
  have hn:=(hM.free j).2 hn;cases hX:X k with
  | none=>rw [(hM.free k).1 hX] at hj;cases hj
  | some x =>
    have hok:=hM.ob k x hX;cases hmk:m k with
    | box cs =>
      rw [hmk] at hok hj;obtain ⟨b,cur,e,_,_,h3,_⟩:=hok;exact absurd hn (V.IsL.dom _ _ h3 j hj)
    | dah es e hs =>
      rw [hmk] at hok hj;obtain ⟨_,_,h0⟩:=hok;rw [Ob.ids] at hj;obtain ⟨z,hz,rfl⟩:=List.mem_map.1 hj;obtain ⟨a,n,c,inf,y,_,_,h5,_⟩:=h0 z hz;rw [h5] at hn;cases hn
    | _=>rw [hmk] at hj;cases hj
 have f3:∀ k,C.X0 k≠none->m k≠.no:=fun k hk hn=>by
  have hn:=(hM.free k).2 hn;cases hx:C.X0 k with
  | none=>exact absurd hx hk
  | some x=>rw [hM.old k x hx] at hn;cases hn
 simp only [zqj,Bool.and_eq_true,List.all_eq_true,decide_eq_true_eq] at hok;obtain ⟨⟨hR1,hR2⟩,hR3⟩:=hok;have hin:∀ k,och.elem k=true->(och++gar).elem (qOf R k)=true:=fun k hk=>hR2 _ (List.mem_map_of_mem (by simpa using hk))
 have hinj:∀ k k',och.elem k=true->och.elem k'=true->qOf R k=qOf R k'->k=k':=fun k k' hk hk' he=>by
  simp at hk hk';exact zhB hR3 hk hk' he
 have hfix:∀ k,N.elem k=false->qOf R k=k:=fun k hk=>zhc (fun p hp e=>by
  have:=(hR1 p hp).2;rw [e,hk] at this;cases this)
 have hfix2:∀ k,och.elem k=false->qOf R k=k:=fun k hk=>zhc (fun p hp e=>by
  have:=hR1 p hp;rw [e,hk] at this;cases this.1)
 -- the new places of the objects
 let Y:Xm:=fun k=>bif och.elem k then X' (qOf R k) else bif gar.elem k then none else X' k
 have Yo:∀ k,och.elem k=true->Y k=X' (qOf R k):=fun k hk=>by simp only [Y,hk,cond_true]
 have Yn:∀ k,och.elem k=false->gar.elem k=false->Y k=X' k:=fun k hk hg=>by simp only [Y,hk,hg,cond_false]
 have Yq:∀ k,zcp och gar k=true->Y k=X' (qOf R k):=fun k hk=>by
  cases ho':och.elem k with
  | true=>exact Yo k ho'
  | false =>
    rw [zcp,ho'] at hk;rw [Yn k ho' (by simpa using hk),hfix2 k ho']
 have Yd:∀ k,N.elem k=false->m k≠.no->Y k=X' k:=fun k hkN hk=>by
  cases ho':och.elem k with
  | true=>rw [Yo k ho',hfix k hkN]
  | false=>exact Yn k ho' (by
    cases hg:gar.elem k with
    | false=>rfl
    | true=>exact absurd (hgar k hg) hk)
 have Ys:∀ k x,Y k=some x->zcp och gar k=true:=fun k x hx=>by
  rw [zcp];cases ho':och.elem k with
  | true=>rfl
  | false =>
    cases hg:gar.elem k with
    | false=>rfl
    | true=>simp only [Y,ho',hg,cond_false,cond_true] at hx;cases hx
 have M':∀ k,zcp och gar k=true->st'.m (qOf R k)=((frame och (cR (ob b')) m) k).ren (qOf R)/\∀ j∈((frame och (cR (ob b')) m) k).ids,Y j=X' (qOf R j):=fun k hk=>by
  cases ho':och.elem k with
  | true =>
    obtain ⟨q1,q2⟩:=zhG h4 k (by rw [hoc];simpa using ho');rw [lA,ho',cond_true];rw [List.all_eq_true] at q2;exact ⟨q1,fun j hj=>Yq j (q2 j hj)⟩
  | false =>
    rw [zcp,ho'] at hk;rw [lA,ho',cond_false,hfix2 k ho',o2 k (by simp at ho' hk ⊢;exact ⟨ho',hk⟩)];have hfr:∀ j∈(m k).ids,N.elem j=false:=fun j hj=>by
     have:=hNm k ho';rw [List.all_eq_true] at this;simpa using this j hj
    refine ⟨?_,fun j hj=>by rw [Yd j (hfr j hj) (f2 k j hj),hfix j (hfr j hj)]⟩;have:∀ j∈(m k).ids,qOf R j=j:=fun j hj=>hfix j (hfr j hj)
    cases hmk:m k with
    | box cs =>
      rw [hmk,Ob.ids] at this;rw [Ob.ren,V.renL_congr cs this]
    | dah es e hs =>
      rw [hmk,Ob.ids] at this;rw [Ob.ren,zpg (fun z hz=>this _ (List.mem_map_of_mem (f:=fun h:Nat × Nat × Nat=>h.2.2) hz))]
    | _=>rfl
 have inj:∀ k k',zcp och gar k=true->zcp och gar k'=true->qOf R k=qOf R k'->k=k':=fun k k' hk hk' he=>by
  cases h1:och.elem k with
  | true =>
    cases h2:och.elem k' with
    | true=>exact hinj k k' h1 h2 he
    | false =>
      have:=hin k h1;rw [he,hfix2 k' h2] at this;rw [zcp,h2] at hk';simp at this h2 hk';rcases this with h | h<;>contradiction
  | false =>
    cases h2:och.elem k' with
    | true =>
      have:=hin k' h2;rw [<- he,hfix2 k h1] at this;rw [zcp,h1] at hk;simp at this h1 hk;rcases this with h | h<;>contradiction
    | false=>rw [hfix2 k h1,hfix2 k' h2] at he;exact he
 refine ⟨G',Y,⟨hM'.gle,hM'.gold,hM'.gok,hM'.keeps,?_,?_,?_,?_,?_,?_⟩,hd',hsz',?_⟩
 ·intro k x hx;have hk:=Ys k x hx;obtain ⟨m1,m2⟩:=M' k hk;rw [Yq k hk] at hx;have:=hM'.ob _ x hx;rw [m1] at this;exact Ob.Ok_unren (fun j hj y hy=>by rw [m2 j hj];exact hy) this
 ·intro k;cases hk:zcp och gar k with
  | true =>
    obtain ⟨m1,_⟩:=M' k hk;rw [Yq k hk,hM'.free,m1,Ob.ren_no]
  | false =>
    simp only [zcp,Bool.or_eq_false_iff,Bool.not_eq_false'] at hk;simp only [Y,hk.1,hk.2,cond_false,cond_true,lA,true_iff];exact hgar k hk.2
 ·intro k k' x x' bl hx hx' B1 B2;have hk:=Ys k x hx;have hk':=Ys k' x' hx';rw [Yq k hk] at hx;rw [Yq k' hk'] at hx';refine inj k k' hk hk' (hM'.apart _ _ x x' bl hx hx' ?_ ?_)
  ·rw [(M' k hk).1,Ob.has_ren];exact B1
  ·rw [(M' k' hk').1,Ob.has_ren];exact B2
 ·intro k x bl hx B1;have hk:=Ys k x hx;rw [Yq k hk] at hx;exact hM'.mine _ x bl hx (by rw [(M' k hk).1,Ob.has_ren];exact B1)
 ·intro k x hx;have hk:=Ys k x hx;rw [Yq k hk] at hx;exact hM'.cell _ x hx
 ·intro k x hx;rw [Yd k (by
   cases hN:N.elem k with
   | false=>rfl
   | true=>rw [hNC k hN] at hx;cases hx) (f3 k (by rw [hx];simp))]
  exact hM'.old k x hx
 ·intro t htn;simp only [lA asg];cases hk:asg.elem t with
  | false =>
    have:=ht' t htn;rw [o1 t hk] at this;simp only [cond_false];have hfrs:∀ j∈(s t).ids,N.elem j=false:=fun j hj=>by
     have h0:=hNs t hk;rw [List.all_eq_true] at h0;simpa using h0 j hj
    have h9:=V.Is.ren (q:=fun k=>k) (Y:=Y) (s t) _ (fun j hj y hy=>by rw [Yd j (hfrs j hj) (f1 t htn j hj)];exact hy) this
    rwa [V.ren_id] at h9
  | true =>
    simp only [cond_true];rcases zhF h3 t with h | ⟨h,hi⟩
    ·rw [h,V.Is];trivial
    ·have:=ht' t htn;rw [h] at this;rw [List.all_eq_true] at hi;exact V.Is.unren _ _ (fun j hj y hy=>by rw [Yq j (hi j hj)];exact hy) this
theorem zrj {α:Type} {x y:Code} (asg och gar N:List Nat) (sl:α->List (Nat × V)) (ob:α->List (Nat × Ob)) (Inv:α->Prop)
  (hga:gar.all (fun k=>qE (m k))=true) (hoc:∀ a,(ob a).map (·.1)=och) (hNC:∀ k,N.elem k=true->C.X0 k=none) (hNs:zaY N asg s) (hNm:zaZ N och m)
  (hA:AWP P C n x (zoB asg och gar N sl ob Inv s m Q) ⟨s,m⟩) (hJ:∀ a,Inv a->AWP P C n y Q ⟨frame asg (zz (sl a)) s,frame och (cR (ob a)) m⟩):AWP P C n (.seq x y) Q ⟨s,m⟩:=fun a w hR=>wp_seq (wp_mono (hA a w hR) (by
 have hgar:∀ k,gar.elem k=true->m k=.no:=fun k hk=>by
  rw [List.all_eq_true] at hga;exact i8 (hga k (by simpa using hk))
 rintro e a' w' ⟨st',hq,hR'⟩;cases e with
 | normal =>
   obtain ⟨b',R,hok,hb',o1,o2,h3,h4⟩:=hq;exact hJ b' hb' a' w' (zqL asg och gar N sl ob hgar hoc hNC hNs hNm hR hok o1 o2 h3 h4 hR')
 | _=>exact ⟨st',hq,hR'⟩))
section
variable {α:Type} {asg och gar N:List Nat} {sl:α->List (Nat × V)} {ob:α->List (Nat × Ob)} {Inv:α->Prop} {s0:Nat->V} {m0:Nat->Ob} {id:Nat}
theorem vC {st:St} (h:Q .ret st):zoB asg och gar N sl ob Inv s0 m0 Q .ret st:=h
theorem zta (a':α) (R:List (Nat × Nat)) (h1:Inv a') (h5:zou s och gar (qOf R) (sl a')) (h6:zov m och gar (qOf R) (ob a'))
  (h3:Off asg s s0:=by repeat (first | exact vO _ _ _ | exact x6 _ _ | refine za1 rfl ?_ | refine za2 rfl ?_ | refine x5 rfl ?_)) (h4:Off (och++gar) m m0:=by repeat (first | exact vO _ _ _ | exact x6 _ _ | refine za1 rfl ?_ | refine za2 rfl ?_ | refine x5 rfl ?_)) (hR:zqj R och gar N=true:=by decide):zoB asg och gar N sl ob Inv s0 m0 Q .normal ⟨s,m⟩ :=
 ⟨a',R,hR,h1,h3,h4,h5,h6⟩
end
end
end Go.Abs
end
