/- A part of the proof: what the functions that the law calls answer, as pure values. -/
import Derived.Laws.BytesString
import Derived.Laws.Strings
import Derived.Test.YtcebadpiebamdaaGreatK3d88aa4dbdf7
set_option linter.unusedSimpArgs false
set_option linter.unusedVariables false
section
set_option linter.unusedSimpArgs false
namespace Go.Abs
theorem zs7 (a b:ByteArray):(a.toList == b.toList)=decide (a=b):=by
 rw [ByteArray.toList_eq,ByteArray.toList_eq];by_cases h:a=b
 ·subst h;simp
 ·simp only [h,decide_false,beq_eq_false_iff_ne,ne_eq];intro h2;apply h;cases a;cases b;simp at h2;exact congrArg ByteArray.mk h2
def zjz (op:BinOp):S->S->Option S
 | .int k a,.int k' b =>
   if k=k' then
    match op with
    | .add=>some (.int k (k.wrap (a+b)))
    | .sub=>some (.int k (k.wrap (a-b)))
    | .mul=>some (.int k (k.wrap (a*b)))
    | .quo=>if b=0 then none else some (.int k (k.wrap (a.tdiv b)))
    | .rem=>if b=0 then none else some (.int k (a.tmod b))
    | .xor=>some (.int k (k.wrap (BitVec.ofInt k.bits a ^^^ BitVec.ofInt k.bits b).toNat))
    | .eql=>some (.bool (decide (a=b)))
    | .neq=>some (.bool (decide (a≠b)))
    | .lss=>some (.bool (decide (a < b)))
    | .leq=>some (.bool (decide (a<=b)))
    | .gtr=>some (.bool (decide (b < a)))
    | .geq=>some (.bool (decide (b<=a)))
    | _=>none
   else none
 | .str a,.str b =>
   match op with
   | .add=>if a.size+b.size<=9223372036854775807 then some (.str (a++b)) else none
   | .eql=>some (.bool (decide (a=b)))
   | .neq=>some (.bool (decide (a≠b)))
   | _=>none
 | _,_=>none
theorem zon {P:Program} {op:BinOp} {s1 s2 s:S} (h:zjz op s1 s2=some s) (t:TypeId) (x y:Operand) (w:World) :
  (do eqGuard op t x y s1.v s2.v;binOp op t s1.v s2.v).run P w=.ok s.v w:=by
 cases s1<;>cases s2<;>simp [zjz] at h
 ·rename_i k a k' b;obtain ⟨rfl,h⟩:=h;cases op<;>simp at h<;>(first | subst h | (obtain ⟨h0,h⟩:=h;subst h)) <;>
   simp [S.v,eqGuard,binOp,Op.intArith,Op.intCmp,Op.intDiv,Op.intBits, *]
  all_goals (first | rfl | (congr 1;simp [bne,BEq.beq]))
 ·rename_i a b;cases op<;>simp at h<;>(first | subst h | (obtain ⟨h0,h⟩:=h;subst h)) <;>
   simp [S.v,eqGuard,binOp,Op.stringOp,zs7, *]
  all_goals (first | rfl | omega | (rw [if_neg (by omega)]))
def zqw (P:Program) (op:BinOp) (t:TypeId):S->S->Option S
 | .bool a,.bool b =>
   match P.underlying t,op with
   | some .bool,.eql=>some (.bool (decide (a=b)))
   | some .bool,.neq=>some (.bool (decide (a≠b)))
   | _,_=>none
 | _,_=>none
theorem zmu {P:Program} {op:BinOp} {t:TypeId} {s1 s2 s:S} (h:zqw P op t s1 s2=some s) (x y:Operand) (w:World) :
  (do eqGuard op t x y s1.v s2.v;binOp op t s1.v s2.v).run P w=.ok s.v w:=by
 cases s1<;>cases s2<;>simp [zqw] at h;rename_i a b;have hu:P.underlying t=some .bool:=by
  split at h<;>simp_all
 have eq:(Op.equal t (.bool a) (.bool b)).run P w=.ok (a == b) w:=by
  have h:∀ d:Nat,(Op.equalIn (d+1) t (.bool a) (.bool b)).run P w=.ok (a == b) w:=fun d=>by simp [Op.equalIn,run_underlying hu]
  exact h 9999
 cases op<;>simp [hu] at h<;>subst h<;>simp [S.v,eqGuard,binOp,eq]
 all_goals (cases a<;>cases b<;>rfl)
def aun (op:UnOp):S->Option S
 | .int k n=>match op with
   | .neg=>some (.int k (k.wrap (0-n)))
   | _=>none
 | .bool b=>match op with
   | .not=>some (.bool (!b))
   | _=>none
 | _=>none
theorem zp5 {P:Program} {op:UnOp} {s1 s:S} (h:aun op s1=some s) (w:World):(Op.unary op s1.v).run P w=.ok s.v w:=by
 cases s1<;>cases op<;>simp [aun] at h<;>subst h<;>simp [S.v,Op.unary,Op.intArith]
def ofS:Value->V
 | .int k n=>.t (.sc (.int k n))
 | .string s=>.t (.sc (.str s))
 | .bool b=>.t (.sc (.bool b))
 | .pointer none=>.t (.sc .nip)
 | .nilIface=>.t (.sc .nii)
 | .nilFunc=>.t (.sc .nif)
 | .map none=>.t (.sc .nim)
 | .slice none 0 0=>.nl
 | _=>.jk
def zjw:Value->V
 | .agg cs=>.ag (cs.toList.map ofS)
 | v=>ofS v
theorem zrG (G:Im) (X:Xm) (v:Value):V.Is G X (ofS v) v:=by
 unfold ofS;split<;>simp [V.Is,T.Is,S.v]
theorem zqT (G:Im) (X:Xm) (v:Value):V.Is G X (zjw v) v:=by
 unfold zjw;split
 ·rename_i cs;rw [V.Is];refine ⟨cs,rfl,V.IsL.of_get (by simp) fun j u hu=>?_⟩;rw [List.getElem?_map] at hu;cases hj:cs.toList[j]? with
  | none=>simp [hj] at hu
  | some y=>simp [hj] at hu;subst hu;exact ⟨y,rfl,zrG G X y⟩
 ·exact zrG G X v
def ev (n:Nat) (s:Nat->V):Operand->V
 | .tmp t=>if t < n then s t else .jk
 | .const v=>zjw v
 | .global g=>.t (.sc (.gp g))
 | .func f=>.fn f []
theorem ev_is {G:Im} {X:Xm} {n:Nat} {s:Nat->V} {a:Act} (h:∀ t,t < n->V.Is G X (s t) (a.eval (.tmp t))) (o:Operand):V.Is G X (ev n s o) (a.eval o):=by
 cases o with
 | tmp t =>
   rw [ev];by_cases ht:t < n
   ·rw [if_pos ht];exact h t ht
   ·rw [if_neg ht];trivial
 | const v=>exact zqT G X v
 | global g=>rw [ev,V.Is,T.Is];rfl
 | func f=>rw [ev,V.Is];exact ⟨#[],rfl,rfl⟩
def bZ:V->List V
 | .ag cs=>cs
 | v=>[v]
theorem zbk {G:Im} {X:Xm} {v:V} {x:Value} (h:V.Is G X v x) (hv:v.one=true∨∃ cs,v=.ag cs) (hX:∀ k y,X k=some y->y.oneCell'=true):V.IsL G X (bZ v) x.cells.toList:=by
 rcases hv with hv | ⟨cs,rfl⟩
 ·have h1:=h.one hv hX;have:x.cells=#[x]:=by cases x<;>simp [Value.oneCell'] at h1<;>rfl
  rw [this];have:bZ v=[v]:=by cases v<;>simp [V.one] at hv<;>rfl
  rw [this];exact ⟨x,[],rfl,h,rfl⟩
 ·rw [V.Is] at h;obtain ⟨xs,rfl,h⟩:=h;exact h
def kG (P:Program) (t:TypeId):Option Nat:=(P.info? t).map (·.size)
def n9 (P:Program) (t:TypeId):Option Bool :=
 match P.underlying t with
 | some (.struct _) | some (.array _ _)=>some true
 | some _=>some false
 | none=>none
theorem zo2 {P:Program} {t:TypeId} {b:Bool} (h:n9 P t=some b) (w:World):(isAgg t).run P w=.ok b w:=by
 unfold n9 at h;cases hu:P.underlying t with
 | none=>rw [hu] at h;cases h
 | some d =>
   rw [hu] at h;cases d<;>simp at h<;>subst h<;>simp [isAgg,run_underlying hu]
theorem zX {P:Program} {t:TypeId} {n:Nat} (h:kG P t=some n) (w:World):(sizeOf t).run P w=.ok n w:=by
 unfold kG at h;cases hi:P.info? t with
 | none=>rw [hi] at h;cases h
 | some i=>rw [hi] at h;simp at h;subst h;simp [sizeOf,typeInfo,hi]
def zcy (P:Program) (t:TypeId) (cells:List V):Option V :=
 match n9 P t with
 | some true=>match kG P t with
   | some n=>if n<=cells.length then some (.ag (cells.take n)) else none
   | none=>none
 | some false=>cells.head?
 | none=>none
theorem zjK {w:World} {b:Nat} {cur:Array Value} {e:TypeId} {fr:Nat × Nat} (hw:w.heap[b]?=some (.cells cur e fr)) (o:Nat):w.cell? ⟨b,o,none⟩=cur.toList[o]?:=by
 simp [World.cell?,hw]
theorem z8 {P:Program} {G:Im} {X:Xm} {t:TypeId} {cells:List V} {v:V} (h:zcy P t cells=some v) {w:World} {b o:Nat} {cur:Array Value} {e:TypeId} {fr:Nat × Nat}
  (hw:w.heap[b]?=some (.cells cur e fr)) (hc:V.At G X cells (cur.toList.drop o)):∃ x,(Instr.loadAt t (.pointer (some ⟨b,o,none⟩))).run P w=.ok x w/\V.Is G X v x:=by
 unfold zcy at h;cases ha:n9 P t with
 | none=>rw [ha] at h;cases h
 | some ag =>
   rw [ha] at h;have hra:=zo2 (w:=w) ha;cases ag with
   | true =>
     cases hs:kG P t with
     | none=>rw [hs] at h;cases h
     | some n =>
       rw [hs] at h;simp only at h;split at h
       ·rename_i hn;cases h;have hrs:=zX (w:=w) hs;have hlen:n<=(cur.toList.drop o).length:=by
         rcases Nat.lt_or_ge (cur.toList.drop o).length n with hlt | hge
         ·obtain ⟨x,hx,_⟩:=hc (cur.toList.drop o).length (cells[(cur.toList.drop o).length]'(by omega)) (List.getElem?_eq_getElem (by omega));rw [List.getElem?_eq_none (Nat.le_refl _)] at hx;cases hx
         ·exact hge
        have hl:=run_loadCells_list (P:=P) w ⟨b,o,none⟩ ((cur.toList.drop o).take n) (fun j u hu=>by
         rw [List.getElem?_take] at hu;split at hu
         ·rw [List.getElem?_drop] at hu;rw [Addr.add_lit,zjK hw];exact hu
         ·cases hu)
        rw [show ((cur.toList.drop o).take n).length=n by rw [List.length_take];omega] at hl;refine ⟨_,by simp [Instr.loadAt,Instr.sureAddr,loadVar,hra,hrs,hl];rfl,?_⟩;rw [V.Is];refine ⟨_,rfl,V.IsL.of_get (by simp only [List.length_take];omega) fun j u hu=>?_⟩;rw [List.getElem?_take] at hu;split at hu
        ·rename_i hj;obtain ⟨x,hx,hi⟩:=hc j u hu;exact ⟨x,by simp only [List.getElem?_take,if_pos hj];exact hx,hi⟩
        ·cases hu
       ·cases h
   | false =>
     simp only at h;obtain ⟨x,hx,hi⟩:=hc 0 v (by rw [<- List.head?_eq_getElem?];exact h);rw [List.getElem?_drop,Nat.add_zero] at hx;exact ⟨x,by simp [Instr.loadAt,Instr.sureAddr,loadVar,hra,zjK hw,hx],hi⟩
def oD (m:Nat->Ob):V->Option (List V)
 | .pe cs=>some (cs.map V.t)
 | .rf k off=>match m k with
   | .box cs=>some (cs.drop off)
   | _=>none
 | .re k i sz off=>match m k with
   | .arr es _ _=>match es[i]? with
     | some r=>if r.length=sz then some ((r.drop off).map V.t) else none
     | none=>none
   | _=>none
 | _=>none
theorem zjt {P:Program} {C:Cx} {m:Nat->Ob} {w:World} {G:Im} {X:Xm} (hM:Mem P C m w G X) {p:V} {cells:List V} (h:oD m p=some cells) {x:Value} (hp:V.Is G X p x) :
  ∃ b o cur e fr,x=.pointer (some ⟨b,o,none⟩)/\w.heap[b]?=some (.cells cur e fr)/\V.At G X cells (cur.toList.drop o):=by
 cases p<;>simp [oD] at h
 ·rename_i cs;subst h;rw [V.Is] at hp;obtain ⟨b,off,row,rfl,hg,hc⟩:=hp;obtain ⟨cur,e,fr,hw,rest,hr⟩:=hM.gok b row hg;refine ⟨b,off,cur,e,fr,rfl,hw,?_⟩;have:=T.Cells.mono (Gle.refl G) _ _ _ ((Sub.append row rest).drop off) hc;rw [<- hr] at this;exact this.at
 ·rename_i k off;cases hm:m k<;>rw [hm] at h<;>simp at h;rename_i cs;subst h;rw [V.Is] at hp;obtain ⟨b,hX,rfl⟩:=hp;have ho:=hM.ob k _ hX;rw [hm] at ho;obtain ⟨b',cur,e,hb,hw,hl,_⟩:=ho;simp at hb;subst hb;exact ⟨b,off,cur,e,_,rfl,hw,hl.at off⟩
 ·rename_i k i sz off;cases hm:m k<;>rw [hm] at h<;>simp at h;rename_i es e md;cases hr:es[i]? with
  | none=>rw [hr] at h;simp at h
  | some r =>
    rw [hr] at h;simp at h;obtain ⟨hsz,rfl⟩:=h;rw [V.Is] at hp;obtain ⟨b,n,c,hX,rfl⟩:=hp;have ho:=hM.ob k _ hX;rw [hm] at ho;obtain ⟨xs,inf,hi,hown,hrows,_⟩:=ho;rcases hown.2 with ⟨_,h0⟩ | ⟨g,cap,cur,hx,hw,hc,_,hcs,htake⟩
    ·have:=(List.getElem?_eq_some_iff.1 hr).1;omega
    ·simp at hx;obtain ⟨rfl,rfl,rfl⟩:=hx;obtain ⟨h1,h2⟩:=hrows.get i r hr;refine ⟨b,i*sz+off,cur,e,_,rfl,hw,?_⟩;rw [<- List.drop_drop];have h3:T.Cells G r (cur.toList.drop (i*inf.size)):=by
      have:=T.Cells.mono (Gle.refl G) r (xs.drop (i*inf.size)) (cur.toList.drop (i*inf.size)) (Sub.drop (by
       rw [<- htake];intro j u hu;rw [List.getElem?_take] at hu;split at hu
       ·exact hu
       ·cases hu) _) h2
      exact this
     rw [<- h1,hsz] at h3;intro j u hu;have h4:=(h3.at (X:=X)) (off+j) u (by rw [List.getElem?_drop] at hu;exact hu);obtain ⟨y,hy,hi2⟩:=h4;exact ⟨y,by rw [List.getElem?_drop];exact hy,hi2⟩
end Go.Abs
end
section
set_option linter.unusedSimpArgs false
set_option linter.unusedVariables false
namespace Go.Abs
def app (m:Nat->Ob):List (Nat × Ob)->Nat->Ob
 | []=>m
 | (k,o)::r=>app (upd m k o) r
theorem mK (m:Nat->Ob) (a b:List (Nat × Ob)):app m (a++b)=app (app m a) b:=by
 induction a generalizing m with
 | nil=>rfl
 | cons x r ih=>obtain ⟨k,o⟩:=x;exact ih _
def toT (m:Nat->Ob):V->Option T
 | .t x=>some x
 | .nl=>some (.sl [])
 | .sn _ x=>some x
 | .ar k=>match m k with
   | .arr es _ _=>some (.sl es)
   | .ro es=>some (.sl es)
   | _=>none
 | _=>none
def zaC (m:Nat->Ob):List V->Option (List T)
 | []=>some []
 | v::vs=>match toT m v,zaC m vs with
   | some t,some ts=>some (t::ts)
   | _,_=>none
def fz:V->List Nat
 | .ar k=>[k]
 | _=>[]
def fzU (m:Nat->Ob):List Nat->List (Nat × Ob)
 | []=>[]
 | k::ks=>match m k with
   | .arr es e true=>(k,.arr es e false)::fzU (upd m k (.arr es e false)) ks
   | _=>fzU m ks
theorem zld (m:Nat->Ob) (k:Nat) (ks:List Nat):(∃ es e,m k=.arr es e true/\fzU m (k::ks)=(k,.arr es e false)::fzU (upd m k (.arr es e false)) ks)∨fzU m (k::ks)=fzU m ks:=by
 rw [fzU];cases h:m k with
 | arr es e md =>
   cases md with
   | true=>exact .inl ⟨es,e,rfl,rfl⟩
   | false=>exact .inr rfl
 | _=>exact .inr rfl
section
variable {P:Program} {C:Cx} {w:World} {X:Xm}
def zit (m:Nat->Ob) (k:Nat):Prop:=∀ es e,m k≠.arr es e true
theorem zsl (m:Nat->Ob) (k:Nat) (es:List (List T)) (e:TypeId) (hm:m k=.arr es e true) (v:V):toT (upd m k (.arr es e false)) v=toT m v:=by
 cases v<;>simp [toT];rename_i j;by_cases hj:j=k
 ·subst hj;rw [aE,hm]
 ·rw [aJ _ _ _ hj]
theorem zdt (v:V):∀ (ks:List Nat) (m:Nat->Ob),toT (app m (fzU m ks)) v=toT m v
 | [],m=>rfl
 | k::ks,m=>by
   unfold fzU;split
   ·rename_i es e hm;rw [app,zdt v ks,zsl m k es e hm]
   ·exact zdt v ks m
theorem zlR (ks:List Nat) (m:Nat->Ob):∀ (vs:List V),zaC (app m (fzU m ks)) vs=zaC m vs
 | []=>rfl
 | v::vs=>by simp only [zaC,zdt,zlR ks m vs]
theorem oT:∀ (ks:List Nat) (m:Nat->Ob) (k:Nat),(zit m k∨k∈ks)->zit (app m (fzU m ks)) k
 | [],m,k,h=>h.resolve_right (by simp)
 | j::ks,m,k,h=>by
   unfold fzU;split
   ·rename_i es e hm;rw [app];refine oT ks _ k ?_;by_cases hk:k=j
    ·subst hk;exact .inl (fun es' e'=>by rw [aE];simp)
    ·rcases h with h | h
     ·exact .inl (fun es' e'=>by rw [aJ _ _ _ hk];exact h es' e')
     ·simp [hk] at h;exact .inr h
   ·rename_i hm;refine oT ks m k ?_;rcases h with h | h
    ·exact .inl h
    ·simp at h;rcases h with rfl | h
     ·exact .inl (fun es e he=>hm es e he)
     ·exact .inr h
theorem Mem.freezeL:∀ (ks:List Nat) {m:Nat->Ob} {G:Im},Mem P C m w G X->∃ G',Gle G G'/\Mem P C (app m (fzU m ks)) w G' X
 | [],m,G,h=>⟨G,Gle.refl G,h⟩
 | k::ks,m,G,h=>by
   unfold fzU;split
   ·rename_i es e hm;cases hx:X k with
    | none=>rw [(h.free k).1 hx] at hm;cases hm
    | some x =>
      obtain ⟨G1,h1,h2⟩:=h.freeze hm hx;obtain ⟨G2,h3,h4⟩:=Mem.freezeL ks h2;exact ⟨G2,h1.trans h3,h4⟩
   ·exact Mem.freezeL ks h
theorem zfC {m:Nat->Ob} {G:Im} (h:Mem P C m w G X) {v:V} {t:T} {x:Value} (hv:toT m v=some t) (hu:∀ k∈fz v,zit m k) (hi:V.Is G X v x):T.Is G t x:=by
 cases v<;>simp [toT] at hv
 ·subst hv;rwa [V.Is] at hi
 ·subst hv;rw [V.Is] at hi;subst hi;rw [T.Is];exact ⟨none,0,0,rfl,Nat.le_refl _,Nat.zero_le _,.inl rfl⟩
 ·rename_i k;rw [V.Is] at hi;have ho:=h.ob k x hi;cases hm:m k<;>rw [hm] at hv ho<;>simp at hv
  ·rename_i es e md;subst hv;cases md with
   | true=>exact absurd hm (hu k (by simp [fz]) es e)
   | false=>exact ho.is
  ·subst hv;exact ho
 ·subst hv;rw [V.Is] at hi;exact hi.1
theorem zhb {m:Nat->Ob} {G:Im} (h:Mem P C m w G X):∀ {vs:List V} {ts:List T} {xs:List Value},zaC m vs=some ts->(∀ k∈vs.flatMap fz,zit m k)->V.IsL G X vs xs->ts.length=xs.length/\T.Cells G ts xs
 | [],ts,xs,hv,_,hi=>by simp [zaC] at hv;subst hv;rw [V.IsL] at hi;subst hi;exact ⟨rfl,trivial⟩
 | v::vs,ts,xs,hv,hu,hi=>by
   rw [V.IsL] at hi;obtain ⟨y,ys,rfl,h1,h2⟩:=hi;unfold zaC at hv;cases ht:toT m v with
   | none=>rw [ht] at hv;simp at hv
   | some t =>
     cases hts:zaC m vs with
     | none=>rw [ht,hts] at hv;simp at hv
     | some ts' =>
       rw [ht,hts] at hv;simp at hv;subst hv;obtain ⟨h3,h4⟩:=zhb h hts (fun k hk=>hu k (by simp;right;simpa using hk)) h2;refine ⟨by simp [h3],?_⟩;rw [T.Cells];exact ⟨⟨y,rfl,zfC h ht (fun k hk=>hu k (by simp;left;exact hk)) h1⟩,by simpa using h4⟩
end
def Did (P:Program) (C:Cx) (m:Nat->Ob) (G:Im) (X:Xm) (r:Result Next) (v:V) (ups:List (Nat × Ob)):Prop :=
 ∃ n y w' G' X',r=.ok n w'/\(n=.value y∨(n=.skip/\y=undef))/\Gle G G'/\Xle X X'/\Mem P C (app m ups) w' G' X'/\V.Is G' X' v y
def zS:Value->Option V
 | .slice none 0 0=>some .nl
 | .int k n=>some (.t (.sc (.int k n)))
 | .string s=>some (.t (.sc (.str s)))
 | .bool b=>some (.t (.sc (.bool b)))
 | .pointer none=>some (.t (.sc .nip))
 | .nilIface=>some (.t (.sc .nii))
 | .nilFunc=>some (.t (.sc .nif))
 | .map none=>some (.t (.sc .nim))
 | _=>none
theorem zS_is (G:Im) (X:Xm) {v:Value} {u:V} (h:zS v=some u):V.Is G X u v:=by
 unfold zS at h;split at h<;>simp at h<;>subst h<;>simp [V.Is,T.Is,S.v]
def zSs:List Value->Option (List V)
 | []=>some []
 | v::vs=>match zS v,zSs vs with
   | some a,some b=>some (a::b)
   | _,_=>none
theorem ziX (G:Im) (X:Xm):∀ {vs:List Value} {us:List V},zSs vs=some us->V.IsL G X us vs
 | [],us,h=>by simp [zSs] at h;subst h;rfl
 | v::vs,us,h=>by
   unfold zSs at h;cases h1:zS v with
   | none=>rw [h1] at h;simp at h
   | some a =>
     cases h2:zSs vs with
     | none=>rw [h1,h2] at h;simp at h
     | some b=>rw [h1,h2] at h;simp at h;subst h;exact ⟨v,vs,rfl,zS_is G X h1,ziX G X h2⟩
def mG (P:Program) (t:TypeId):Option (List V):=match (P.info? t).bind (·.zero) with
 | some z=>zSs z.cells.toList
 | none=>none
theorem znx {P:Program} {t:TypeId} {us:List V} (h:mG P t=some us):∃ z,(∀ w,(zeroValue t).run P w=.ok z w)/\∀ G X,V.IsL G X us z.cells.toList:=by
 unfold mG at h;cases hi:P.info? t with
 | none=>rw [hi] at h;simp at h
 | some i =>
   cases hz:i.zero with
   | none=>rw [hi] at h;simp [hz] at h
   | some z =>
     rw [hi] at h;simp [hz] at h;exact ⟨z,fun w=>by simp [zeroValue,typeInfo,hi,hz],fun G X=>ziX G X h⟩
def xC:V->Bool
 | .ag _=>true
 | v=>v.one
theorem zeO {v:V} (h:xC v=true):v.one=true∨∃ cs,v=.ag cs:=by
 cases v<;>simp [xC,V.one] at h ⊢
section ops
variable {P:Program} {C:Cx} {m:Nat->Ob} {w:World} {G:Im} {X:Xm}
theorem cL (hM:Mem P C m w G X) {y:Value} {v:V} (hv:V.Is G X v y):Did P C m G X (.ok (.value y) w) v [] :=
 ⟨_,y,w,G,X,rfl,.inl rfl,Gle.refl G,Xle.refl X,hM,hv⟩
theorem zpX (hM:Mem P C m w G X) {id:Nat} (hid:m id=.no) {t:TypeId} {zs:List V} (hz:mG P t=some zs) {ρ:Operand->Value} {o:Oper} (ho:o.op=.alloc t) :
  Did P C m G X ((execOp ρ o).run P w) (.rf id 0) [(id,.box zs)]:=by
 obtain ⟨z,hr,hl⟩:=znx hz;obtain ⟨h1,h2⟩:=hM.newBox hid z.cells t zs (hl G X);refine ⟨.value (.pointer (some ⟨w.heap.size,0,none⟩)),_,_,G,_,?_,.inl rfl,Gle.refl G,h2,h1,?_⟩
 ·simp [execOp,ho,Instr.alloc,hr,newVar,newRow]
 ·rw [V.Is];exact ⟨w.heap.size,aE _ _ _,rfl⟩
theorem zsF (hM:Mem P C m w G X) {id:Nat} (hid:m id=.no) {t:TypeId} {v:V} {ρ:Operand->Value} {o:Oper} {x:Operand} (ho:o.op=.box t x) (hv:V.Is G X v (ρ x)) (hb:xC v=true) :
  Did P C m G X ((execOp ρ o).run P w) (.rf id 0) [(id,.box (bZ v))]:=by
 have hl:=zbk hv (zeO hb) (hM.cell);obtain ⟨h1,h2⟩:=hM.newBox hid (ρ x).cells t _ hl;refine ⟨.value (.pointer (some ⟨w.heap.size,0,none⟩)),_,_,G,_,?_,.inl rfl,Gle.refl G,h2,h1,?_⟩
 ·simp [execOp,ho,Instr.box,newVar,newRow]
 ·rw [V.Is];exact ⟨w.heap.size,aE _ _ _,rfl⟩
theorem zrd (hM:Mem P C m w G X) {t:TypeId} {p v:V} {cells:List V} (hc:oD m p=some cells) (ht:zcy P t cells=some v) {ρ:Operand->Value} {o:Oper} {x:Operand} (ho:o.op=.load t x) (hp:V.Is G X p (ρ x)) :
  Did P C m G X ((execOp ρ o).run P w) v []:=by
 obtain ⟨b,off,cur,e,fr,hx,hw,hat⟩:=zjt hM hc hp;obtain ⟨y,hr,hi⟩:=z8 ht hw hat;refine ⟨.value y,y,w,G,X,?_,.inl rfl,Gle.refl G,Xle.refl X,hM,hi⟩;simp [execOp,ho,hx,hr]
def cK {α:Type} (cs:List α) (off:Nat) (vs:List α):List α:=cs.take off++vs++cs.drop (off+vs.length)
theorem mT {α:Type} (cs:List α) (off:Nat) (vs:List α) (h:off+vs.length<=cs.length):(cK cs off vs).length=cs.length:=by
 unfold cK;simp;omega
theorem zkJ {cs vs:List V} {xs ys:List Value} {off:Nat} (h1:V.IsL G X cs xs) (h2:V.IsL G X vs ys) (hl:off+vs.length<=cs.length):V.IsL G X (cK cs off vs) (cK xs off ys):=by
 have e1:=h1.length;have e2:=h2.length;refine V.IsL.of_get (by rw [mT _ _ _ hl,mT _ _ _ (by omega),e1]) fun j v hv=>?_
 unfold cK at hv ⊢;rw [List.append_assoc] at hv ⊢;rw [List.getElem?_append] at hv ⊢;simp only [List.length_take] at hv ⊢;by_cases hj:j < min off cs.length
 ·rw [if_pos hj] at hv;rw [if_pos (by omega)];rw [List.getElem?_take] at hv ⊢;split at hv
  ·rename_i hj2;rw [if_pos hj2];exact h1.get j v hv
  ·cases hv
 ·rw [if_neg hj] at hv;rw [if_neg (by omega)];rw [List.getElem?_append] at hv ⊢;by_cases hj2:j-min off cs.length < vs.length
  ·rw [if_pos hj2] at hv;rw [if_pos (by omega)];rw [show min off xs.length=min off cs.length by omega];exact h2.get _ v hv
  ·rw [if_neg hj2] at hv;rw [if_neg (by omega)];rw [List.getElem?_drop] at hv ⊢;rw [show off+ys.length+(j-min off xs.length-ys.length)=off+vs.length+(j-min off cs.length-vs.length) by omega];exact h1.get _ v hv
theorem u2 {t:TypeId} {b off n:Nat} {x:Value} {cur:Array Value} {e:TypeId} (hs:kG P t=some n) (hx:x.cells.size=n) (h1:∀ c∈x.cells.toList,c.oneCell'=true)
  (hw:w.heap[b]?=some (.cells cur e (0,0))) (hfit:off+n<=cur.size) :
  (Instr.storeAt t (.pointer (some ⟨b,off,none⟩)) x).run P w=.ok () (w.setRow b (cK cur.toList off x.cells.toList).toArray):=by
 have hst:=run_storeCells_at P b off e x.cells.toList 0 cur w hw (by simp [hx];omega) h1;simp only [Nat.add_zero] at hst;simp [Instr.storeAt,Instr.sureAddr,storeVar,zX hs,hx,hst,cK]
def y6:List V->Bool
 | []=>true
 | v::vs=>v.one&&y6 vs
theorem zhA:∀ {vs:List V} {xs:List Value},y6 vs=true->V.IsL G X vs xs->(∀ k y,X k=some y->y.oneCell'=true)->∀ c∈xs,c.oneCell'=true
 | [],xs,_,h,_,c,hc=>by rw [V.IsL] at h;subst h;simp at hc
 | v::vs,xs,ho,h,hX,c,hc=>by
   rw [V.IsL] at h;obtain ⟨y,ys,rfl,h1,h2⟩:=h;simp [y6] at ho;simp at hc;rcases hc with rfl | hc
   ·exact h1.one ho.1 hX
   ·exact zhA ho.2 h2 hX c hc
theorem zj7 (hM:Mem P C m w G X) {t:TypeId} {k off:Nat} {v:V} {cs:List V} (hm:m k=.box cs) {ρ:Operand->Value} {o:Oper} {p x:Operand} (ho:o.op=.store t p x)
  (hp:V.Is G X (.rf k off) (ρ p)) (hv:V.Is G X v (ρ x)) (hone:y6 (bZ v)=true) (hsz:kG P t=some (bZ v).length) (hfit:off+(bZ v).length<=cs.length) :
  Did P C m G X ((execOp ρ o).run P w) .jk [(k,.box (cK cs off (bZ v)))]:=by
 have hbx:v.one=true∨∃ cs,v=.ag cs:=by
  cases v<;>simp [bZ,y6,V.one] at hone ⊢
 have hl:=zbk hv hbx hM.cell;rw [V.Is] at hp;obtain ⟨b,hX,hpx⟩:=hp;have hob:=hM.ob k _ hX;rw [hm] at hob;obtain ⟨b',cur,e,hb,hw,hcs,hG⟩:=hob;simp at hb;subst hb;have hlen:=hl.length;have hcl:=hcs.length;have hrun:=u2 (w:=w) (x:=ρ x) (b:=b) (off:=off) hsz (by simpa using hlen) (zhA hone hl hM.cell) hw (by simp at hcl;omega);have hnew:=zkJ (off:=off) hcs hl hfit;refine ⟨.skip,undef,_,G,X,by simp [execOp,ho,hpx,hrun];rfl,.inr ⟨rfl,rfl⟩,Gle.refl G,Xle.refl X,?_,trivial⟩;refine hM.rewrite hX (by rw [hm];exact rfl) hG _ _ (by simp) (fun b' hb'=>by rw [hm];exact hb') ?_;exact ⟨b,_,e,rfl,setRow_heap w b cur _ e _ hw,by simpa using hnew,hG⟩
end ops
end Go.Abs
end
section
set_option linter.unusedSimpArgs false
set_option linter.unusedVariables false
namespace Go.Abs
theorem uY {α:Type} (cs:List α) (off:Nat) (vs:List α) (h:off+vs.length<=cs.length) (p:Nat) :
  (cK cs off vs)[p]?=if p < off then cs[p]? else if p < off+vs.length then vs[p-off]? else cs[p]?:=by
 unfold cK;rw [List.append_assoc,List.getElem?_append,List.length_take];by_cases h1:p < off
 ·rw [if_pos (by omega),if_pos h1,List.getElem?_take,if_pos h1]
 ·rw [if_neg (by omega),if_neg h1,List.getElem?_append];by_cases h2:p < off+vs.length
  ·rw [if_pos (by omega),if_pos h2,show p-min off cs.length=p-off by omega]
  ·rw [if_neg (by omega),if_neg h2,List.getElem?_drop];congr 1;omega
theorem T.Rows.set {G:Im} {sz:Nat} {es:List (List T)} {xs ys:List Value} {i off:Nat} {r ts:List T} (h:T.Rows G sz es xs) (hr:es[i]?=some r) (hsz:r.length=sz) (hoff:off+ts.length<=sz)
  (hc:T.Cells G ts ys) (hl:ts.length=ys.length) (hx:xs.length=es.length*sz):T.Rows G sz (es.set i (cK r off ts)) (cK xs (i*sz+off) ys):=by
 have hi:i < es.length:=(List.getElem?_eq_some_iff.1 hr).1;have hmul:(i+1)*sz<=es.length*sz:=Nat.mul_le_mul_right _ (by omega);rw [Nat.add_mul,Nat.one_mul] at hmul;have hfit:i*sz+off+ys.length<=xs.length:=by omega
 refine T.Rows.of_get fun j q hq=>?_
 by_cases hj:j=i
 ·subst hj;rw [List.getElem?_set_self hi] at hq;cases hq;refine ⟨by rw [mT _ _ _ (by omega),hsz],T.Cells.of_get fun p t ht=>?_⟩;rw [List.getElem?_drop,uY _ _ _ hfit];rw [uY _ _ _ (by omega)] at ht;have hrow:=(h.get j r hr).2;have base:∀ t,r[p]?=some t->∃ x,xs[j*sz+p]?=some x/\T.Is G t x:=fun t ht=>by
   obtain ⟨x,hx1,hx2⟩:=hrow.get p t ht;exact ⟨x,by rw [List.getElem?_drop] at hx1;exact hx1,hx2⟩
  by_cases h1:p < off
  ·rw [if_pos h1] at ht;rw [if_pos (by omega)];exact base t ht
  ·rw [if_neg h1] at ht;rw [if_neg (by omega)];by_cases h2:p < off+ts.length
   ·rw [if_pos h2] at ht;rw [if_pos (by omega),show j*sz+p-(j*sz+off)=p-off by omega];exact hc.get _ t ht
   ·rw [if_neg h2] at ht;rw [if_neg (by omega)];exact base t ht
 ·rw [List.getElem?_set_ne (Ne.symm hj)] at hq;obtain ⟨h1,h2⟩:=h.get j q hq;refine ⟨h1,T.Cells.of_get fun p t ht=>?_⟩;have hp:p < sz:=by have:=(List.getElem?_eq_some_iff.1 ht).1;omega
  obtain ⟨x,hx1,hx2⟩:=h2.get p t ht;refine ⟨x,?_,hx2⟩;rw [List.getElem?_drop] at hx1 ⊢;rw [uY _ _ _ hfit];rcases Nat.lt_or_gt_of_ne hj with hlt | hgt
  ·have:(j+1)*sz<=i*sz:=Nat.mul_le_mul_right _ (by omega);rw [Nat.add_mul,Nat.one_mul] at this;rw [if_pos (by omega)];exact hx1
  ·have:(i+1)*sz<=j*sz:=Nat.mul_le_mul_right _ (by omega);rw [Nat.add_mul,Nat.one_mul] at this;rw [if_neg (by omega),if_neg (by omega)];exact hx1
section ops
variable {P:Program} {C:Cx} {m:Nat->Ob} {w:World} {G:Im} {X:Xm}
theorem zj8 (hM:Mem P C m w G X) {t e:TypeId} {k i sz off:Nat} {v:V} {es:List (List T)} {r ts:List T} (hm:m k=.arr es e true) {ρ:Operand->Value} {o:Oper} {p x:Operand} (ho:o.op=.store t p x)
  (hp:V.Is G X (.re k i sz off) (ρ p)) (hv:V.Is G X v (ρ x)) (hone:y6 (bZ v)=true) (hsz:kG P t=some (bZ v).length) (hr:es[i]?=some r) (hrl:r.length=sz) (hes:kG P e=some sz)
  (hfit:off+(bZ v).length<=sz) (hts:zaC m (bZ v)=some ts) (hkk:k ∉ (bZ v).flatMap fz) :
  Did P C m G X ((execOp ρ o).run P w) .jk (fzU m ((bZ v).flatMap fz)++[(k,.arr (es.set i (cK r off ts)) e true)]):=by
 have hbx:v.one=true∨∃ cs,v=.ag cs:=by
  cases v<;>simp [bZ,y6,V.one] at hone ⊢
 obtain ⟨G1,hG1,hM1⟩:=hM.freezeL ((bZ v).flatMap fz);have hl:=zbk (V.Is.mono hG1 (Xle.refl X) _ _ hv) hbx hM1.cell;have hts1:zaC (app m (fzU m ((bZ v).flatMap fz))) (bZ v)=some ts:=by rw [zlR];exact hts
 obtain ⟨hlen,hcells⟩:=zhb hM1 hts1 (fun k hk=>oT _ _ _ (.inr hk)) hl;have hm1:app m (fzU m ((bZ v).flatMap fz)) k=.arr es e true:=by
  have:∀ (ks:List Nat) (m:Nat->Ob),k ∉ ks->app m (fzU m ks) k=m k:=by
   intro ks;induction ks with
   | nil=>intro m _;rfl
   | cons j ks ih =>
     intro m hk;simp at hk;rcases zld m j ks with ⟨es',e',_,h⟩ | h<;>rw [h]
     ·rw [app,ih _ hk.2,aJ _ _ _ hk.1]
     ·exact ih m hk.2
  rw [this _ _ hkk];exact hm
 rw [V.Is] at hp;obtain ⟨b,n,c,hX,hpx⟩:=hp;have hob:=hM1.ob k _ hX;rw [hm1] at hob;obtain ⟨xs,inf,hi,hown,hrows,hGn⟩:=hob;have hinf:inf.size=sz:=by simp [kG,hi] at hes;exact hes
 rcases hown.2 with ⟨_,h00⟩ | ⟨g,c1,cur,hx0,hw,hc,hcm,hcs,htake⟩
 ·have:=(List.getElem?_eq_some_iff.1 hr).1;omega
 ·simp at hx0;obtain ⟨rfl,rfl,rfl⟩:=hx0;have hvl:=hl.length;have hcz:(ρ x).cells.size=(ρ x).cells.toList.length:=by simp
  have hil:i < es.length:=(List.getElem?_eq_some_iff.1 hr).1;have hmul:(i+1)*sz<=es.length*sz:=Nat.mul_le_mul_right _ (by omega);rw [Nat.add_mul,Nat.one_mul] at hmul;have hmul2:es.length*sz<=(c1+1)*sz:=Nat.mul_le_mul_right _ hc;rw [hinf] at hcs htake hrows;have hrun:=u2 (P:=P) (w:=w) (x:=ρ x) (b:=b) (off:=i*sz+off) hsz (by simpa using hvl) (zhA hone hl hM1.cell) hw (by omega);have hxl:xs.length=es.length*sz:=by rw [hown.1,hinf]
  refine ⟨.skip,undef,_,G1,X,by simp [execOp,ho,hpx,hrun];rfl,.inr ⟨rfl,rfl⟩,hG1,Xle.refl X,?_,trivial⟩;rw [mK];have hG0:G1 b=none:=by simpa using hGn ⟨b,0,none⟩ _ _ rfl
  refine hM1.rewrite hX (by rw [hm1];exact rfl) hG0 _ _ (by simp) (fun b' hb'=>by rw [hm1];exact hb') ?_;have htsl:ts.length=(ρ x).cells.toList.length:=hlen;have hnew:=hrows.set (off:=off) (ts:=ts) (ys:=(ρ x).cells.toList) hr hrl (by omega) hcells htsl hxl;refine ⟨_,inf,hi,⟨?_,.inr ⟨b,c1,_,by simp,setRow_heap w b cur _ e _ hw,by simpa using hc,hcm,?_,?_⟩⟩,by rw [hinf];exact hnew,?_⟩
  ·rw [mT _ _ _ (by omega),List.length_set,hinf];exact hxl
  ·rw [List.size_toArray,mT _ _ _ (by simp;omega),hinf];simpa using hcs
  ·simp only [List.length_set,hinf];apply List.ext_getElem?;intro p;rw [List.getElem?_take,uY _ _ _ (by simp;omega),uY _ _ _ (by omega)];by_cases hp:p < es.length*sz
   ·rw [if_pos hp];have:xs[p]?=cur.toList[p]?:=by rw [<- htake,List.getElem?_take,if_pos hp]
    rw [this]
   ·rw [if_neg hp,if_neg (by omega),if_neg (by omega),List.getElem?_eq_none (by omega)]
  ·intro a n' c' ha;simp at ha;obtain ⟨rfl,_⟩:=ha;simpa using hG0
def jJ (P:Program) (s:TypeId) (f:Nat):Option (Nat × TypeId) :=
 match P.underlying s with
 | some (.struct fields)=>match fields[f]? with
   | some fd=>match kG P fd.type with
     | some (_+1)=>some (fd.offset,fd.type)
     | _=>none
   | none=>none
 | _=>none
theorem zb0 {s:TypeId} {f:Nat} {off:Nat} {ft:TypeId} (h:jJ P s f=some (off,ft)):∃ fields fd n,P.underlying s=some (.struct fields)/\fields[f]?=some fd/\kG P ft=some (n+1)/\fd.offset=off/\fd.type=ft:=by
 unfold jJ at h;split at h
 ·rename_i fields hu;split at h
  ·rename_i fd hf;split at h
   ·rename_i n hs;simp at h;obtain ⟨rfl,rfl⟩:=h;exact ⟨fields,fd,n,hu,hf,hs,rfl,rfl⟩
   ·cases h
  ·cases h
 ·cases h
def zkA (off:Nat):V->Option V
 | .rf k o=>some (.rf k (o+off))
 | .re k i sz o=>some (.re k i sz (o+off))
 | .pe cs=>some (.pe (cs.drop off))
 | _=>none
theorem zkd (hM:Mem P C m w G X) {s:TypeId} {f off:Nat} {ft:TypeId} (hf:jJ P s f=some (off,ft)) {p v:V} (hpv:zkA off p=some v) {ρ:Operand->Value} {o:Oper} {x:Operand} (ho:o.op=.fieldAddr s x f) (hp:V.Is G X p (ρ x)) :
  Did P C m G X ((execOp ρ o).run P w) v []:=by
 obtain ⟨fields,fd,n,hu,hfd,hs,rfl,rfl⟩:=zb0 hf;have key:∀ b q,ρ x=.pointer (some ⟨b,q,none⟩)->(execOp ρ o).run P w=.ok (.value (.pointer (some ⟨b,q+fd.offset,none⟩))) w:=by
  intro b q hx;simp [execOp,ho,Instr.fieldAt,run_underlying hu,hfd,hx,Instr.sureAddr,fieldPlace,zX hs,Addr.add_lit]
 cases p<;>simp [zkA] at hpv<;>subst hpv<;>rw [V.Is] at hp
 ·obtain ⟨b,q,row,hx,hg,hc⟩:=hp;rw [key b q hx];refine cL hM ?_;rw [V.Is];refine ⟨b,_,row,rfl,hg,T.Cells.of_get fun j t ht=>?_⟩;rw [List.getElem?_drop] at ht;obtain ⟨y,hy,hi⟩:=hc.get _ t ht;exact ⟨y,by rw [List.getElem?_drop] at hy ⊢;rw [<- hy];congr 1;omega,hi⟩
 ·obtain ⟨b,hX,hx⟩:=hp;rw [key b _ hx];exact cL hM (by rw [V.Is];exact ⟨b,hX,rfl⟩)
 ·obtain ⟨b,n',c,hX,hx⟩:=hp;rw [key b _ hx];exact cL hM (by rw [V.Is];exact ⟨b,n',c,hX,by rw [Nat.add_assoc]⟩)
theorem zpV (hM:Mem P C m w G X) {s:TypeId} {f off:Nat} {ft:TypeId} (hf:jJ P s f=some (off,ft)) {cs:List V} {v:V} (hv:zcy P ft (cs.drop off)=some v) {ρ:Operand->Value} {o:Oper} {x:Operand} (ho:o.op=.field s x f) (hp:V.Is G X (.ag cs) (ρ x)) :
  Did P C m G X ((execOp ρ o).run P w) v []:=by
 obtain ⟨fields,fd,n,hu,hfd,hs,rfl,rfl⟩:=zb0 hf;rw [V.Is] at hp;obtain ⟨xs,hx,hl⟩:=hp;have hlen:=hl.length;unfold zcy at hv;cases ha:n9 P fd.type with
 | none=>rw [ha] at hv;cases hv
 | some ag =>
   rw [ha] at hv;have hra:=zo2 (w:=w) ha;cases ag with
   | true =>
     rw [hs] at hv;simp only at hv;split at hv
     ·rename_i hn;cases hv;have hrun:(execOp ρ o).run P w=.ok (.value (.agg (xs.extract fd.offset (fd.offset+(n+1))))) w:=by
       simp [execOp,ho,Instr.field,run_underlying hu,hfd,hx,asAgg,part,hra,zX hs]
      rw [hrun];refine cL hM ?_;rw [V.Is];simp at hlen hn;refine ⟨_,rfl,V.IsL.of_get (by simp;omega) fun j u hj=>?_⟩;rw [List.getElem?_take] at hj;split at hj
      ·rename_i hjn;rw [List.getElem?_drop] at hj;obtain ⟨y,hy,hi⟩:=hl.get _ u hj;refine ⟨y,?_,hi⟩;have hjx:fd.offset+j < xs.size:=by simpa using (List.getElem?_eq_some_iff.1 hy).1
       simp at hy ⊢;rw [List.getElem?_take,if_pos hjn,List.getElem?_drop];simpa using hy
      ·cases hj
     ·cases hv
   | false =>
     simp only at hv;rw [List.head?_eq_getElem?,List.getElem?_drop] at hv;obtain ⟨y,hy,hi⟩:=hl.get _ v hv;have hrun:(execOp ρ o).run P w=.ok (.value y) w:=by
      simp at hy;simp [execOp,ho,Instr.field,run_underlying hu,hfd,hx,asAgg,part,hra,hy]
     rw [hrun];exact cL hM hi
def zcw (P:Program) (t:TypeId):Option (TypeId × Nat) :=
 match P.underlying t with
 | some (.slice e)=>match kG P e with
   | some sz=>some (e,sz)
   | none=>none
 | _=>none
theorem zbq {t e:TypeId} {sz:Nat} (h:zcw P t=some (e,sz)):P.underlying t=some (.slice e)/\kG P e=some sz:=by
 unfold zcw at h;split at h
 ·rename_i e' hu;split at h
  ·rename_i sz' hs;simp at h;obtain ⟨rfl,rfl⟩:=h;exact ⟨hu,hs⟩
  ·cases h
 ·cases h
def zaT (m:Nat->Ob) (sz:Nat) (i:Nat):V->Option V
 | .t (.sl es)=>match es[i]? with
   | some r=>if r.length=sz then some (.pe r) else none
   | none=>none
 | .ar k=>match m k with
   | .arr es _ _=>if i < es.length then some (.re k i sz 0) else none
   | .ro es=>match es[i]? with
     | some r=>if r.length=sz then some (.pe r) else none
     | none=>none
   | .dar es _=>if i < es.length then some (.re k i sz 0) else none
   | _=>none
 | _=>none
theorem zcP {t e:TypeId} {sz:Nat} (ht:zcw P t=some (e,sz)) {k:IntKind} {i:Int} {n c b off:Nat} (h0:0<=i) (h1:i < n):(Instr.indexAt t (.slice (some ⟨b,off,none⟩) n c) (.int k i)).run P w=.ok (.pointer (some ⟨b,off+i.toNat*sz,none⟩)) w:=by
 obtain ⟨hu,hs⟩:=zbq ht;simp [Instr.indexAt,asIntOf,run_underlying hu,h0,h1,zX hs,Addr.add_lit]
theorem zkc (hM:Mem P C m w G X) {t e:TypeId} {sz:Nat} (ht:zcw P t=some (e,sz)) {k:IntKind} {i:Int} (h0:0<=i) {p v:V} (hv:zaT m sz i.toNat p=some v) {ρ:Operand->Value} {o:Oper} {x y:Operand} (ho:o.op=.indexAddr t x y)
  (hp:V.Is G X p (ρ x)) (hi:ρ y=.int k i):Did P C m G X ((execOp ρ o).run P w) v []:=by
 have slc:∀ (es:List (List T)) (r:List T),es[i.toNat]?=some r->r.length=sz->T.Is G (.sl es) (ρ x)->Did P C m G X ((execOp ρ o).run P w) (.pe r) []:=by
  intro es r hr hrl hT;rw [T.Is] at hT;obtain ⟨A,c,sz',hx,hc,_,hrow⟩:=hT;have hil:i.toNat < es.length:=(List.getElem?_eq_some_iff.1 hr).1;rcases hrow with rfl | ⟨b,off,cs,rfl,hg,hrows⟩
  ·simp at hil
  ·have hrun:=zcP (w:=w) ht (k:=k) (n:=es.length) (c:=c) (b:=b) (off:=off) h0 (by omega);have:(execOp ρ o).run P w=.ok (.value (.pointer (some ⟨b,off+i.toNat*sz,none⟩))) w:=by simp [execOp,ho,hx,hi,hrun]
   rw [this];obtain ⟨h3,h4⟩:=hrows.get _ r hr;refine cL hM ?_;rw [V.Is];refine ⟨b,_,cs,rfl,hg,?_⟩;rw [<- List.drop_drop,<- hrl,h3];exact h4
 cases p<;>simp [zaT] at hv
 ·rename_i y';cases y'<;>simp at hv;rename_i es;cases hr:es[i.toNat]? with
  | none=>rw [hr] at hv;simp at hv
  | some r =>
    rw [hr] at hv;simp at hv;obtain ⟨hrl,rfl⟩:=hv;exact slc es r hr hrl (by rw [V.Is] at hp;exact hp)
 ·rename_i kk;rw [V.Is] at hp;have hob:=hM.ob kk _ hp;cases hm:m kk<;>rw [hm] at hv hob<;>simp at hv
  ·rename_i es e' md;obtain ⟨hlt,rfl⟩:=hv;obtain ⟨xs,inf,hinf,hown,_,_⟩:=hob;rcases hown.2 with ⟨hx0,h00⟩ | ⟨g,cap,cur,hx0,_⟩
   ·omega
   ·have hrun:=zcP (w:=w) ht (k:=k) (n:=es.length) (c:=cap+1) (b:=g) (off:=0) h0 (by omega);have:(execOp ρ o).run P w=.ok (.value (.pointer (some ⟨g,0+i.toNat*sz,none⟩))) w:=by simp only [execOp,ho,hx0,hi];simp [hrun]
    rw [this];exact cL hM (by rw [V.Is];exact ⟨g,es.length,cap+1,by rw [hp,hx0],by simp⟩)
  ·rename_i es;cases hr:es[i.toNat]? with
   | none=>rw [hr] at hv;simp at hv
   | some r =>
     rw [hr] at hv;simp at hv;obtain ⟨hrl,rfl⟩:=hv;exact slc es r hr hrl hob
  ·rename_i es e';obtain ⟨hlt,rfl⟩:=hv;obtain ⟨⟨xs,inf,hinf,hown,_,_⟩,_⟩:=hob;rcases hown.2 with ⟨hx0,h00⟩ | ⟨g,cap,cur,hx0,_⟩
   ·omega
   ·have hrun:=zcP (w:=w) ht (k:=k) (n:=es.length) (c:=cap+1) (b:=g) (off:=0) h0 (by omega);have:(execOp ρ o).run P w=.ok (.value (.pointer (some ⟨g,0+i.toNat*sz,none⟩))) w:=by simp only [execOp,ho,hx0,hi];simp [hrun]
    rw [this];exact cL hM (by rw [V.Is];exact ⟨g,es.length,cap+1,by rw [hp,hx0],by simp⟩)
def zaV (s:ByteArray) (i:Nat):UInt8:=s.data.toList.getD i 0
theorem zkb (hM:Mem P C m w G X) {t:TypeId} (ht:P.underlying t=some .string) {s:ByteArray} {k:IntKind} {i:Int} (h0:0<=i) (h1:i < s.size) {ρ:Operand->Value} {o:Oper} {x y:Operand} (ho:o.op=.index t x y)
  (hp:ρ x=.string s) (hi:ρ y=.int k i):Did P C m G X ((execOp ρ o).run P w) (.t (.sc (.int .u8 (zaV s i.toNat).toNat))) []:=by
 have hlt:i.toNat < s.size:=by omega
 have:(execOp ρ o).run P w=.ok (.value (.int .u8 (zaV s i.toNat).toNat)) w:=by
  have hg:s[i.toNat]?=some (zaV s i.toNat):=by
   rw [getElem?_pos s i.toNat hlt];congr 1;unfold zaV;rw [List.getD_eq_getElem?_getD,List.getElem?_eq_getElem (by simpa using hlt)];rfl
  simp [execOp,ho,hp,hi,Instr.index,asIntOf,run_underlying ht,h0,hg]
 rw [this];exact cL hM (by rw [V.Is,T.Is];rfl)
def zmO (m:Nat->Ob):V->Option Nat
 | .t (.sl es)=>some es.length
 | .nl=>some 0
 | .sn _ (.sl es)=>some es.length
 | .ar k=>match m k with
   | .arr es _ _=>some es.length
   | .ro es=>some es.length
   | .dar es _=>some es.length
   | _=>none
 | _=>none
theorem zo9 (hM:Mem P C m w G X) {v:V} {n:Nat} (h:zmO m v=some n) {x:Value} (hv:V.Is G X v x):∃ A c,x=.slice A n c:=by
 cases v<;>simp [zmO] at h
 ·rename_i t;cases t<;>simp at h;subst h;rw [V.Is,T.Is] at hv;obtain ⟨A,c,sz,hx,_⟩:=hv;exact ⟨A,c,hx⟩
 ·subst h;rw [V.Is] at hv;exact ⟨none,0,hv⟩
 ·rename_i k;rw [V.Is] at hv;have hob:=hM.ob k _ hv;cases hm:m k<;>rw [hm] at h hob<;>simp at h<;>subst h
  ·obtain ⟨xs,inf,hinf,hown,_,_⟩:=hob;rcases hown.2 with ⟨⟨A,hx0⟩,h00⟩ | ⟨g,cap,cur,hx0,_⟩
   ·exact ⟨A,0,by rw [hx0,h00]⟩
   ·exact ⟨_,cap+1,hx0⟩
  ·obtain ⟨A,c,sz,hx,_⟩:=hob;exact ⟨A,c,hx⟩
  ·obtain ⟨⟨xs,inf,hinf,hown,_,_⟩,_⟩:=hob;rcases hown.2 with ⟨⟨A,hx0⟩,h00⟩ | ⟨g,cap,cur,hx0,_⟩
   ·exact ⟨A,0,by rw [hx0,h00]⟩
   ·exact ⟨_,cap+1,hx0⟩
 ·rename_i b t;cases t<;>simp at h;subst h;rw [V.Is,T.Is] at hv;obtain ⟨⟨A,c,sz,hx,_⟩,_⟩:=hv;exact ⟨A,c,hx⟩
theorem zsE (hM:Mem P C m w G X) {t e:TypeId} (ht:P.underlying t=some (.slice e)) {v:V} {n:Nat} (h:zmO m v=some n) {ρ:Operand->Value} {o:Oper} {x:Operand} (ho:o.op=.call { callee:=.builtin .len,args:=#[x],argTypes:=#[t] }) (hv:V.Is G X v (ρ x)) :
  Did P C m G X ((execOp ρ o).run P w) (.t (.sc (.int .i64 n))) []:=by
 obtain ⟨A,c,hx⟩:=zo9 hM h hv;have:(execOp ρ o).run P w=.ok (.value (.int .i64 n)) w:=by
  simp [execOp,ho,resolve,invoke,builtin,Builtin.len_,run_underlying ht,hx,goInt]
 rw [this];exact cL hM (by rw [V.Is,T.Is];rfl)
theorem zmp (hM:Mem P C m w G X) {t:TypeId} (ht:P.underlying t=some .string) {s:ByteArray} {ρ:Operand->Value} {o:Oper} {x:Operand} (ho:o.op=.call { callee:=.builtin .len,args:=#[x],argTypes:=#[t] }) (hv:ρ x=.string s) :
  Did P C m G X ((execOp ρ o).run P w) (.t (.sc (.int .i64 s.size))) []:=by
 have:(execOp ρ o).run P w=.ok (.value (.int .i64 s.size)) w:=by
  simp [execOp,ho,resolve,invoke,builtin,Builtin.len_,run_underlying ht,hv,goInt]
 rw [this];exact cL hM (by rw [V.Is,T.Is];rfl)
end ops
end Go.Abs
end
section
set_option linter.unusedSimpArgs false
set_option linter.unusedVariables false
namespace Go.Abs
section ops
variable {P:Program} {C:Cx} {m:Nat->Ob} {w:World} {G:Im} {X:Xm}
def zb2 (P:Program) (t:TypeId):Option (TypeId × Nat × Nat) :=
 match P.underlying t with
 | some (.slice e)=>match P.info? e with
   | some i=>match i.zero with
     | some z=>if z.cells.size=i.size/\0 < i.bytes/\0 < i.size then some (e,i.bytes,i.size) else none
     | none=>none
   | none=>none
 | _=>none
theorem tX {t e:TypeId} {by' sz:Nat} (h:zb2 P t=some (e,by',sz)):∃ i z,P.underlying t=some (.slice e)/\P.info? e=some i/\i.zero=some z/\z.cells.size=i.size/\i.bytes=by'/\i.size=sz/\0 < by'/\0 < sz:=by
 unfold zb2 at h;split at h
 ·rename_i e' hu;split at h
  ·rename_i i hi;split at h
   ·rename_i z hz;split at h
    ·rename_i hc;simp at h;obtain ⟨rfl,rfl,rfl⟩:=h;exact ⟨i,z,hu,hi,hz,hc.1,rfl,rfl,hc.2.1,hc.2.2⟩
    ·cases h
   ·cases h
  ·cases h
 ·cases h
theorem Mem.newNil (h:Mem P C m w G X) {id:Nat} (hid:m id=.no) {e:TypeId} {i:TypeInfo} (hi:P.info? e=some i) :
  Mem P C (upd m id (.arr [] e true)) w G (upd X id (some (.slice none 0 0)))/\Xle X (upd X id (some (.slice none 0 0))):=by
 have hX:X id=none:=(h.free id).2 hid;refine ⟨⟨h.gle,h.gold,h.gok,h.keeps,?_,?_,?_,?_,?_,fun k y hk=>jO hX k y (h.old k y hk)⟩,jO hX⟩
 ·intro k y hy;by_cases hk:k=id
  ·subst hk;rw [aE] at hy ⊢;cases hy;exact ⟨[],i,hi,zbo w e i.size none,by rw [T.Rows];trivial,fun a n c ha=>by simp at ha⟩
  ·rw [aJ _ _ _ hk] at hy ⊢;exact (h.ob k y hy).mono (Gle.refl G) (jO hX) (fun _ _=>rfl) (fun _ _=>rfl)
 ·intro k;by_cases hk:k=id
  ·subst hk;rw [aE,aE];simp
  ·rw [aJ _ _ _ hk,aJ _ _ _ hk];exact h.free k
 ·have f:∀ k y b,upd X id (some (.slice none 0 0)) k=some y->(upd m id (.arr [] e true) k).has w y b->X k=some y/\(m k).has w y b:=by
   intro k y b hy hb;by_cases hk:k=id
   ·subst hk;rw [aE] at hy hb;cases hy;exact hb.elim
   ·rw [aJ _ _ _ hk] at hy hb;exact ⟨hy,hb⟩
  intro k k' y y' b hy hy' B1 B2;obtain ⟨a1,a2⟩:=f k y b hy B1;obtain ⟨b1,b2⟩:=f k' y' b hy' B2;exact h.apart k k' y y' b a1 b1 a2 b2
 ·intro k y b hy B1;by_cases hk:k=id
  ·subst hk;rw [aE] at hy B1;cases hy;exact B1.elim
  ·rw [aJ _ _ _ hk] at hy B1;exact h.mine k y b hy B1
 ·intro k y hy;by_cases hk:k=id
  ·subst hk;rw [aE] at hy;cases hy;rfl
  ·rw [aJ _ _ _ hk] at hy;exact h.cell k y hy
theorem xF (hG:Gok G w) {fs:List (List T)} {x:Value} (h:T.Is G (.sl fs) x) {sz:Nat} (hsz:∀ r∈fs,r.length=sz):∃ B c news,x=.slice B fs.length c/\news.length=fs.length*sz/\T.Rows G sz fs news /\
  (fs.length=0∨∃ a,B=some a/\∀ j u,news[j]?=some u->w.cell? (a.add j)=some u)/\∀ u∈news,u.oneCell'=true:=by
 rw [T.Is] at h;obtain ⟨A,c,sz',hx,hc,_,hr⟩:=h;rcases hr with rfl | ⟨b,off,cs,rfl,hg,hrows⟩
 ·exact ⟨A,c,[],hx,by simp,by rw [T.Rows];trivial,.inl rfl,by simp⟩
 ·rcases Nat.eq_zero_or_pos fs.length with h0 | hpos
  ·have:fs=[]:=List.eq_nil_of_length_eq_zero h0;subst this;exact ⟨_,c,[],hx,by simp,by rw [T.Rows];trivial,.inl rfl,by simp⟩
  ·have hss:sz'=sz:=by
    obtain ⟨h1,_⟩:=hrows.get 0 fs[0] (List.getElem?_eq_getElem hpos);rw [<- h1];exact hsz _ (List.getElem_mem hpos)
   subst hss;obtain ⟨cur,e,fr,hw,rest,hrest⟩:=hG b cs hg
   -- the row of the last element tells that the cells are there
   have hcell:∀ p,p < fs.length*sz'->∃ t y,(fs[p / sz']?).bind (·[p % sz']?)=some t/\(cs.drop off)[p]?=some y/\T.Is G t y:=by
    intro p hp;have hs0:0 < sz':=by rcases Nat.eq_zero_or_pos sz' with h | h;rw [h] at hp;omega;exact h
    have hd:p / sz' < fs.length:=by rw [Nat.div_lt_iff_lt_mul hs0];exact hp
    have hm:p % sz' < sz':=Nat.mod_lt _ hs0;obtain ⟨h1,h2⟩:=hrows.get (p / sz') fs[p / sz'] (List.getElem?_eq_getElem hd);obtain ⟨y,hy,hi⟩:=h2.get (p % sz') (fs[p / sz'][p % sz']'(by omega)) (List.getElem?_eq_getElem (by omega));refine ⟨_,y,by rw [List.getElem?_eq_getElem hd,Option.bind_some,List.getElem?_eq_getElem (by omega)],?_,hi⟩;rw [List.getElem?_drop] at hy;rw [show p=p / sz'*sz'+p % sz' by rw [Nat.mul_comm];exact (Nat.div_add_mod p sz').symm];exact hy
   have hlen:fs.length*sz'<=(cs.drop off).length:=by
    rcases Nat.lt_or_ge (cs.drop off).length (fs.length*sz') with hlt | hge
    ·obtain ⟨t,y,_,hy,_⟩:=hcell _ hlt;rw [List.getElem?_eq_none (Nat.le_refl _)] at hy;cases hy
    ·exact hge
   refine ⟨_,c,(cs.drop off).take (fs.length*sz'),hx,by rw [List.length_take];omega,?_,.inr ⟨⟨b,off,none⟩,rfl,?_⟩,?_⟩
   ·refine T.Rows.of_get fun i r hr=>?_
    obtain ⟨h1,h2⟩:=hrows.get i r hr;have hi:=(List.getElem?_eq_some_iff.1 hr).1;have hmul:(i+1)*sz'<=fs.length*sz':=Nat.mul_le_mul_right _ (by omega);rw [Nat.add_mul,Nat.one_mul] at hmul;refine ⟨h1,T.Cells.of_get fun j t ht=>?_⟩;have hj:=(List.getElem?_eq_some_iff.1 ht).1;obtain ⟨y,hy,hi2⟩:=h2.get j t ht;refine ⟨y,?_,hi2⟩;rw [List.getElem?_drop] at hy ⊢;rw [List.getElem?_take,if_pos (by omega)];exact hy
   ·intro j u hu;rw [List.getElem?_take] at hu;split at hu
    ·rw [List.getElem?_drop] at hu;rw [Addr.add_lit,zjK hw,hrest];exact Sub.append cs rest _ _ hu
    ·cases hu
   ·intro u hu;obtain ⟨p,hp⟩:=List.mem_iff_getElem?.1 hu;rw [List.getElem?_take] at hp;split at hp
    ·rename_i hlt;obtain ⟨t,y,_,hy,hi⟩:=hcell p hlt;rw [hp] at hy;cases hy;exact hi.one
    ·cases hp
theorem u4 {ρ:Operand->Value} {o:Oper} {x y:Operand} {t:TypeId} (ho:o.op=.call { callee:=.builtin .append,args:=#[x,y],argTypes:=#[t,t] }) {v':Value} {w':World}
  (h:(Builtin.append_ #[t,t] o.type #[ρ x,ρ y]).run P w=.ok v' w'):(execOp ρ o).run P w=.ok (.value v') w':=by
 simp [execOp,ho,resolve,invoke,builtin,h]
theorem zoh (hM:Mem P C m w G X) {id k:Nat} (hid:m id=.no) {t e:TypeId} {by' sz:Nat} (ht:zb2 P t=some (e,by',sz)) {v:V} {es fs:List (List T)} {md:Bool} (hfs:toT m v=some (.sl fs))
  (hm:(app m (fzU m (fz v))) k=.arr es e md) (hfr:(app m (fzU m (fz v))) id=.no) (hrow:∀ r∈fs,r.length=sz) (hb:(es.length+fs.length)*by'<=140737488355328) {ρ:Operand->Value} {o:Oper} {x y:Operand}
  (ho:o.op=.call { callee:=.builtin .append,args:=#[x,y],argTypes:=#[t,t] }) (hx:V.Is G X (.ar k) (ρ x)) (hv:V.Is G X v (ρ y)) :
  Did P C m G X ((execOp ρ o).run P w) (.ar id) (fzU m (fz v)++[(k,if md then .dead else .ro es),(id,.arr (es++fs) e md)]):=by
 obtain ⟨i,z,hu,hi,hz,hzs,hby,hsz,B0,hs0⟩:=tX ht;obtain ⟨G1,hG1,hM1⟩:=hM.freezeL (fz v);have hT:T.Is G1 (.sl fs) (ρ y):=zfC hM1 (by rw [zdt];exact hfs) (fun k hk=>oT _ _ _ (.inr hk)) (V.Is.mono hG1 (Xle.refl X) _ _ hv);obtain ⟨B,c,news,hy,hl,hrows,hnews,hone⟩:=xF hM1.gok hT hrow;rw [V.Is] at hx;have h63:es.length+fs.length<=maxLen:=by
  have:es.length+fs.length<=(es.length+fs.length)*by':=Nat.le_mul_of_pos_right _ B0;simp only [maxLen];omega
 subst hsz;subst hby;obtain ⟨v',w',G',hrun,hG',hX',hM'⟩:=hM1.append (id:=id) hm hx hfr t o.type i z hu hi hz hzs B c news hl hrows hnews hone hb h63;rw [<- hy] at hrun;refine ⟨.value v',v',w',G',_,u4 ho hrun,.inl rfl,hG1.trans hG',hX',?_,?_⟩
 ·rw [mK];exact hM'
 ·rw [V.Is];exact aE _ _ _
theorem ziS (hM:Mem P C m w G X) {id:Nat} (hid:m id=.no) (hid2:m (id+1000)=.no) {t e:TypeId} {by' sz:Nat} (ht:zb2 P t=some (e,by',sz)) {v:V} {fs:List (List T)} (hfs:toT m v=some (.sl fs))
  (hrow:∀ r∈fs,r.length=sz) (hb:fs.length*by'<=140737488355328) (hfz:∀ k∈fz v,k≠id/\k≠id+1000) {ρ:Operand->Value} {o:Oper} {x y:Operand}
  (ho:o.op=.call { callee:=.builtin .append,args:=#[x,y],argTypes:=#[t,t] }) (hx:V.Is G X .nl (ρ x)) (hv:V.Is G X v (ρ y)) :
  Did P C m G X ((execOp ρ o).run P w) (.ar id) (fzU m (fz v)++[(id+1000,.dead),(id,.arr fs e true)]):=by
 obtain ⟨i,z,hu,hi,hz,hzs,hby,hsz,B0,hs0⟩:=tX ht;obtain ⟨G1,hG1,hM1⟩:=hM.freezeL (fz v);have keep:∀ (ks:List Nat) (m:Nat->Ob) (j:Nat),j ∉ ks->app m (fzU m ks) j=m j:=by
  intro ks;induction ks with
  | nil=>intro m j _;rfl
  | cons q ks ih =>
    intro m j hk;simp at hk;rcases zld m q ks with ⟨es',e',_,h⟩ | h<;>rw [h]
    ·rw [app,ih _ _ hk.2,aJ _ _ _ hk.1]
    ·exact ih m j hk.2
 have hn1:(app m (fzU m (fz v))) id=.no:=by rw [keep _ _ _ (fun h=>(hfz _ h).1 rfl)];exact hid
 have hn2:(app m (fzU m (fz v))) (id+1000)=.no:=by rw [keep _ _ _ (fun h=>(hfz _ h).2 rfl)];exact hid2
 have hT:T.Is G1 (.sl fs) (ρ y):=zfC hM1 (by rw [zdt];exact hfs) (fun k hk=>oT _ _ _ (.inr hk)) (V.Is.mono hG1 (Xle.refl X) _ _ hv);obtain ⟨hM2,hX2⟩:=hM1.newNil hn2 hi;obtain ⟨B,c,news,hy,hl,hrows,hnews,hone⟩:=xF hM2.gok hT hrow;rw [V.Is] at hx;have h63:([]:List (List T)).length+fs.length<=maxLen:=by
  have:fs.length<=fs.length*by':=Nat.le_mul_of_pos_right _ B0;simp only [maxLen,List.length_nil,Nat.zero_add];omega
 subst hsz;subst hby;obtain ⟨v',w',G',hrun,hG',hX',hM'⟩:=hM2.append (k:=id+1000) (id:=id) (es:=[]) (aE _ _ _) (aE _ _ _) (by rw [aJ _ _ _ (by omega)];exact hn1) t o.type i z hu hi hz hzs B c news hl hrows hnews hone (by simpa using hb) h63;rw [<- hy,<- hx] at hrun;refine ⟨.value v',v',w',G',_,u4 ho hrun,.inl rfl,hG1.trans hG',hX2.trans hX',?_,?_⟩
 ·rw [mK];have e1:upd (upd (upd (app m (fzU m (fz v))) (id+1000) (.arr [] e true)) (id+1000) .dead) id (.arr fs e true)=upd (upd (app m (fzU m (fz v))) (id+1000) .dead) id (.arr fs e true):=by
   funext j;unfold upd;split<;>(try split)<;>rfl
  have e2:([]:List (List T))++fs=fs:=rfl;rw [e2] at hM';simp only [if_true] at hM';rw [e1] at hM';exact hM'
 ·rw [V.Is];exact aE _ _ _
theorem zkg (hM:Mem P C m w G X) {t e:TypeId} {by' sz:Nat} (ht:zb2 P t=some (e,by',sz)) {v:V} {fs:List (List T)} (hfs:toT m v=some (.sl fs))
  (hrow:∀ r∈fs,r.length=sz) (hb:fs.length*by'<=140737488355328) {ρ:Operand->Value} {o:Oper} {x y:Operand}
  (ho:o.op=.call { callee:=.builtin .append,args:=#[x,y],argTypes:=#[t,t] }) (hx:V.Is G X .ze (ρ x)) (hv:V.Is G X v (ρ y)) :
  Did P C m G X ((execOp ρ o).run P w) (.t (.sl fs)) (fzU m (fz v)):=by
 obtain ⟨i,z,hu,hi,hz,hzs,hby,hsz,B0,hs0⟩:=tX ht;obtain ⟨G1,hG1,hM1⟩:=hM.freezeL (fz v);have hT:T.Is G1 (.sl fs) (ρ y):=zfC hM1 (by rw [zdt];exact hfs) (fun k hk=>oT _ _ _ (.inr hk)) (V.Is.mono hG1 (Xle.refl X) _ _ hv);obtain ⟨B,c,news,hy,hl,hrows,hnews,hone⟩:=xF hM1.gok hT hrow;rw [V.Is] at hx;obtain ⟨A,hx⟩:=hx;have h63:fs.length<=maxLen:=by
  have:fs.length<=fs.length*by':=Nat.le_mul_of_pos_right _ B0;simp only [maxLen];omega
 subst hsz;subst hby;obtain ⟨v',w',hrun,hcase⟩:=zdV (P:=P) (w:=w) t o.type e i z hu hi hz hzs A B c fs.length news hl hnews hone hb h63;rw [<- hy,<- hx] at hrun;rcases hcase with ⟨rfl,rfl,h0⟩ | ⟨cap',cur',rest,rfl,rfl,hcur,C1,C2,_⟩
 ·refine ⟨.value _,_,w',G1,X,u4 ho hrun,.inl rfl,hG1,Xle.refl X,hM1,?_⟩;have:fs=[]:=List.eq_nil_of_length_eq_zero h0;subst this;rw [V.Is,T.Is];exact ⟨A,0,0,rfl,Nat.le_refl _,Nat.zero_le _,.inl rfl⟩
 ·obtain ⟨hM2,hle⟩:=hM1.fresh cur' e cur'.toList ⟨[],by simp⟩;refine ⟨.value _,_,_,_,X,u4 ho hrun,.inl rfl,hG1.trans hle,Xle.refl X,hM2,?_⟩;rw [V.Is,T.Is];refine ⟨_,cap',i.size,rfl,C1,C2,.inr ⟨w.heap.size,0,cur'.toList,rfl,by simp,?_⟩⟩;rw [List.drop_zero];exact T.Rows.mono hle _ _ _ _ (by rw [hcur];exact Sub.append news rest) hrows
theorem zgM (cells:List Value):∀ (vs:List Value) (off k:Nat) (cs:Array Value),off+k+vs.length<=cs.size ->
  ((vs.zipIdx k).foldl (fun cs (p:Value × Nat)=>cs.setIfInBounds (off+p.2) p.1) cs).toList=cK cs.toList (off+k) vs
 | [],off,k,cs,_=>by simp [cK]
 | v::vs,off,k,cs,h=>by
   simp only [List.zipIdx_cons,List.foldl_cons];simp only [List.length_cons] at h;rw [zgM cells vs off (k+1) _ (by simp;omega)];apply List.ext_getElem?;intro p;rw [uY _ _ _ (by simp;omega),uY _ _ _ (by simp;omega)];simp only [Array.toList_setIfInBounds,List.length_cons,List.getElem?_set];by_cases h1:p < off+k
   ·rw [if_pos (by omega),if_pos h1,if_neg (by omega)]
   ·rw [if_neg h1];by_cases h2:p=off+k
    ·subst h2;rw [if_pos (by omega),if_pos rfl,if_pos (by simp;omega),if_pos (by omega)];simp
    ·rw [if_neg (by omega)];by_cases h3:p < off+k+(vs.length+1)
     ·rw [if_pos (by omega),if_pos (by omega),show p-(off+k)=(p-(off+(k+1)))+1 by omega,List.getElem?_cons_succ]
     ·rw [if_neg (by omega),if_neg (by omega),if_neg (by omega)]
def zg2 (pl:Nat->Option (Nat × Nat)):List V->List (Nat × V)->Option (List V)
 | cs,[]=>some cs
 | cs,(i,v)::r=>match pl i with
   | some (off,size)=>if xC v=true/\(bZ v).length=size/\off+size<=cs.length then zg2 pl (cK cs off (bZ v)) r else none
   | none=>none
theorem zpf {pl:Nat->Option (Nat × Nat)} (hX:∀ k y,X k=some y->y.oneCell'=true):∀ {parts:List (Nat × V)} {xs:List (Nat × Value)} {cs us:List V} {cells:Array Value},V.IsL G X cs cells.toList ->
  xs.length=parts.length->(∀ (j i:Nat) (v:V),parts[j]?=some (i,v)->∃ x,xs[j]?=some (i,x)/\V.Is G X v x)->zg2 pl cs parts=some us->∃ cells',Instr.fill pl cells xs=some cells'/\V.IsL G X us cells'.toList
 | [],xs,cs,us,cells,hl,hlen,_,h=>by
   simp [zg2] at h;subst h;have:xs=[]:=List.eq_nil_of_length_eq_zero (by simpa using hlen);subst this;exact ⟨cells,by simp [Instr.fill],hl⟩
 | (i,v)::r,xs,cs,us,cells,hl,hlen,hp,h=>by
   obtain ⟨⟨i',x⟩,xs',rfl⟩:∃ y ys,xs=y::ys:=by cases xs<;>simp at hlen;exact ⟨_,_,rfl⟩
   obtain ⟨x',hx',hi⟩:=hp 0 i v rfl;simp at hx';obtain ⟨rfl,rfl⟩:=hx';unfold zg2 at h;cases hpl:pl i' with
   | none=>rw [hpl] at h;simp at h
   | some os =>
     obtain ⟨off,size⟩:=os;rw [hpl] at h;simp only at h;split at h
     ·rename_i hc;obtain ⟨hb,hvl,hfit⟩:=hc;have hvc:=zbk hi (zeO hb) hX;have hvcl:=hvc.length;have hcl:=hl.length;have hsp:=zkJ (off:=off) hl hvc (by omega);have hset:=zgM [] x.cells.toList off 0 cells (by simp at hvcl hcl ⊢;omega);have hfold:(x.cells.zipIdx.foldl (fun cs (p:Value × Nat)=>cs.setIfInBounds (off+p.2) p.1) cells).toList=cK cells.toList off x.cells.toList:=by
       rw [<- Array.foldl_toList,Array.toList_zipIdx];simpa using hset
      obtain ⟨cells',h1,h2⟩:=zpf (cells:=x.cells.zipIdx.foldl (fun cs (p:Value × Nat)=>cs.setIfInBounds (off+p.2) p.1) cells) (xs:=xs') hX (by rw [hfold];exact hsp) (by simpa using hlen) (fun j i v hj=>by
       obtain ⟨x,hx,hi⟩:=hp (j+1) i v (by simpa using hj);exact ⟨x,by simpa using hx,hi⟩) h
      refine ⟨cells',?_,h2⟩;rw [Instr.fill,hpl];simp only;simp at hvcl hcl;rw [if_neg (by simp;omega)];exact h1
     ·cases h
def xZ (P:Program) (t:TypeId):Option (List (Nat × Nat)) :=
 match P.underlying t with
 | some (.struct fields)=>fields.toList.mapM (fun f=>(P.info? f.type).map fun i=>(f.offset,i.size))
 | _=>none
theorem zpW (hM:Mem P C m w G X) {t:TypeId} {parts:Array (Nat × Operand)} {zs us:List V} {pl:List (Nat × Nat)} (hz:mG P t=some zs) (hpl:xZ P t=some pl) {E:Operand->V}
  (hf:zg2 (pl[·]?) zs (parts.toList.map fun p=>(p.1,E p.2))=some us) {ρ:Operand->Value} {o:Oper} (ho:o.op=.build t parts) (hE:∀ x,V.Is G X (E x) (ρ x)) :
  Did P C m G X ((execOp ρ o).run P w) (.ag us) []:=by
 unfold xZ at hpl;split at hpl
 ·rename_i fields hu;unfold mG at hz;cases hi:P.info? t with
  | none=>rw [hi] at hz;simp at hz
  | some i =>
    cases hzz:i.zero with
    | none=>rw [hi] at hz;simp [hzz] at hz
    | some z =>
      rw [hi] at hz;simp [hzz] at hz;have hl:=ziX G X hz;obtain ⟨cells,h1,h2⟩:=zpf (cells:=z.cells) (xs:=parts.toList.map fun p=>(p.1,ρ p.2)) hM.cell hl (by simp) (fun j i v hj=>by
       rw [List.getElem?_map] at hj;cases hq:parts.toList[j]? with
       | none=>rw [hq] at hj;simp at hj
       | some p=>rw [hq] at hj;simp at hj;obtain ⟨rfl,rfl⟩:=hj;exact ⟨ρ p.2,by rw [List.getElem?_map,hq];rfl,hE _⟩) hf
      have hb:P.built t (parts.map fun (i,x)=>(i,ρ x)).toList=some cells:=by
       unfold Program.built;rw [hi,hu];simp only [hzz,hpl];have:(fun x:Nat=>pl.toArray[x]?)=(fun x:Nat=>pl[x]?):=by funext x;simp
       rw [this];simpa using h1
      have:(execOp ρ o).run P w=.ok (.value (.agg cells)) w:=by
       simp only [execOp,ho,Sem.run_bind,run_build w t _ cells hb,Result.andThen_ok];rfl
      rw [this];exact cL hM (by rw [V.Is];exact ⟨cells,rfl,h2⟩)
 ·cases hpl
end ops
end Go.Abs
end
