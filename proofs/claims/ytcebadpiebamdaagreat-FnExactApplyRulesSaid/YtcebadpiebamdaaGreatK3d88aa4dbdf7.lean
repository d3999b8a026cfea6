/- A part of the proof: what the functions that the law calls answer, as pure values. -/
import Derived.Lib.ItoaNum
import Derived.Test.YtcebadpiebamdaaGreatKd1a238959357
set_option linter.unusedSimpArgs false
set_option linter.unusedVariables false
section
namespace Go.Abs
theorem S.v_one (s:S):s.v.oneCell'=true:=by cases s<;>rfl
theorem T.Is.one {G:Im} {t:T} {x:Value} (h:T.Is G t x):x.oneCell'=true:=by
 cases t with
 | sc s=>rw [T.Is] at h;subst h;exact s.v_one
 | sl es=>rw [T.Is] at h;obtain ⟨A,c,sz,rfl,_⟩:=h;rfl
 | ow e es=>rw [T.Is] at h;exact h.elim
 | any=>exact h
def V.one:V->Bool
 | .ag _ | .tp _ | .jk=>false
 | _=>true
theorem V.Is.one {G:Im} {X:Xm} {v:V} {x:Value} (hv:v.one=true) (h:V.Is G X v x) (hX:∀ k y,X k=some y->y.oneCell'=true):x.oneCell'=true:=by
 cases v<;>simp [V.one] at hv<;>rw [V.Is] at h
 ·exact h.one
 ·subst h;rfl
 ·obtain ⟨b,off,row,rfl,_⟩:=h;rfl
 ·obtain ⟨b,_,rfl⟩:=h;rfl
 ·obtain ⟨b,n,c,_,rfl⟩:=h;rfl
 ·exact hX _ _ h
 ·obtain ⟨xs,rfl,_⟩:=h;rfl
 ·obtain ⟨A,rfl⟩:=h;rfl
 ·exact h.1.one
inductive Ob where
 | no
 | dead
 | box (cs:List V)
 | arr (es:List (List T)) (e:TypeId) (md:Bool)
 | ro (es:List (List T))
 | dar (es:List (List T)) (e:TypeId)
 | dah (es:List (List T)) (e:TypeId) (hs:List (Nat × Nat × Nat))
 | mp (f:Int->Option Int)
 | mpx (bm:Nat) (es:Array MapEntry) (clock:Nat)
 | it (mo:Option Nat) (since:Nat) (seen:Array Nat) (c0:Nat)
def zp8 (es:List MapEntry) (clock:Nat) (f:Int->Option Int):Prop :=
 (∀ e∈es,e.born < clock/\∃ k v,e.key=.int .i64 k/\e.val=.int .i64 v/\f k=some v)/\(es.map (·.key)).Nodup/\(es.map (·.born)).Nodup /\
 ∀ k v,f k=some v->∃ e∈es,e.key=.int .i64 k/\e.val=.int .i64 v
def zlJ (w:World) (e:TypeId) (size:Nat) (v:Value) (n:Nat) (xs:List Value):Prop :=
 xs.length=n*size /\
 (((∃ A,v=.slice A 0 0)/\n=0) ∨
  ∃ g cap cur,v=.slice (some ⟨g,0,none⟩) n (cap+1)/\w.heap[g]?=some (.cells cur e (0,0))/\n<=cap+1/\cap+1<=maxLen/\cur.size=(cap+1)*size/\cur.toList.take (n*size)=xs)
theorem zjQ {w:World} {e:TypeId} {size:Nat} {v:Value} {n:Nat} {xs:List Value} (h:w.ownsRow 0 e size v n xs):zlJ w e size v n xs:=by
 obtain ⟨h0,⟨rfl,rfl⟩ | ⟨g,cap,cur,h1,h2,h3,h4,h5,h6,h7⟩⟩:=h
 ·exact ⟨h0,.inl ⟨⟨none,rfl⟩,rfl⟩⟩
 ·cases cap with
  | zero=>have:n=0:=by omega
          subst this;exact ⟨h0,.inl ⟨⟨_,h1⟩,rfl⟩⟩
  | succ c=>exact ⟨h0,.inr ⟨g,c,cur,h1,h3,h4,h5,h6,h7⟩⟩
theorem zbo (w:World) (e:TypeId) (size:Nat) (A:Option Addr):zlJ w e size (.slice A 0 0) 0 []:=⟨by simp,.inl ⟨⟨A,rfl⟩,rfl⟩⟩
def cellsOf (w:World) (b:Nat):List Value:=match w.heap[b]? with
 | some (.cells cur _ _)=>cur.toList
 | _=>[]
mutual
def T.IsO (P:Program) (G:Im) (w:World):T->Value->Prop
 | .sc s,x=>x=s.v
 | .sl es,x=>T.Is G (.sl es) x
 | .any,x=>x.oneCell'=true
 | .ow e es,x=>∃ xs i,P.info? e=some i/\zlJ w e i.size x es.length xs/\T.RowsO P G w i.size es xs/\∀ a n c,x=.slice (some a) n (c+1)->G a.block=none
def T.RowsO (P:Program) (G:Im) (w:World) (sz:Nat):List (List T)->List Value->Prop
 | [],_=>True
 | r::rs,cs=>r.length=sz/\T.CellsO P G w r cs/\T.RowsO P G w sz rs (cs.drop sz)
def T.CellsO (P:Program) (G:Im) (w:World):List T->List Value->Prop
 | [],_=>True
 | t::ts,cs=>(∃ c,cs[0]?=some c/\T.IsO P G w t c)/\T.CellsO P G w ts (cs.drop 1)
end
mutual
def T.reach (w:World):T->Value->List Nat
 | .ow _ es,.slice (some a) _ (_+1)=>a.block::T.reachR w es (cellsOf w a.block)
 | _,_=>[]
def T.reachR (w:World):List (List T)->List Value->List Nat
 | [],_=>[]
 | r::rs,cs=>T.reachC w r cs++T.reachR w rs (cs.drop r.length)
def T.reachC (w:World):List T->List Value->List Nat
 | [],_=>[]
 | t::ts,cs=>T.reach w t (cs.getD 0 .nilIface)++T.reachC w ts (cs.drop 1)
end
def Ob.has (w:World):Ob->Value->Nat->Prop
 | .box _,.pointer (some a),b=>b=a.block
 | .arr _ _ _,.slice (some a) _ (_+1),b=>b=a.block
 | .mp _,.map (some r),b=>b=r
 | .mpx _ _ _,.map (some r),b=>b=r
 | .it _ _ _ _,.pointer (some a),b=>b=a.block
 | .dar es e,x,b=>b∈T.reach w (.ow e es) x
 | .dah es e _,x,b=>b∈T.reach w (.ow e es) x
 | _,_,_=>False
theorem Ob.has_box {w:World} {cs:List V} {a:Addr} {b:Nat}:Ob.has w (.box cs) (.pointer (some a)) b↔b=a.block:=Iff.rfl
theorem Ob.has_arr' {w:World} {es:List (List T)} {e:TypeId} {md:Bool} {x:Value} {b:Nat}:Ob.has w (.arr es e md) x b↔∃ a n c,x=.slice (some a) n (c+1)/\b=a.block:=by
 cases x<;>try (simp [Ob.has];done)
 rename_i a n c;cases a<;>cases c<;>simp [Ob.has]
theorem Ob.has_mp {w:World} {f:Int->Option Int} {x:Value} {b:Nat}:Ob.has w (.mp f) x b↔x=.map (some b):=by
 cases x<;>try (simp [Ob.has];done)
 rename_i r;cases r<;>simp [Ob.has,eq_comm]
theorem Ob.has_mpx {w:World} {bm:Nat} {es:Array MapEntry} {clock:Nat} {x:Value} {b:Nat}:Ob.has w (.mpx bm es clock) x b↔x=.map (some b):=by
 cases x<;>try (simp [Ob.has];done)
 rename_i r;cases r<;>simp [Ob.has,eq_comm]
theorem Ob.has_it {w:World} {mo:Option Nat} {si c0:Nat} {seen:Array Nat} {x:Value} {b:Nat}:Ob.has w (.it mo si seen c0) x b↔∃ a,x=.pointer (some a)/\b=a.block:=by
 cases x<;>try (simp [Ob.has];done)
 rename_i a;cases a<;>simp [Ob.has]
theorem Ob.has_dead {w:World} {x:Value} {b:Nat}:¬ Ob.has w .dead x b:=by cases x<;>exact id
theorem Ob.has_no {w:World} {x:Value} {b:Nat}:¬ Ob.has w .no x b:=by cases x<;>exact id
theorem Ob.has_ro {w:World} {es:List (List T)} {x:Value} {b:Nat}:¬ Ob.has w (.ro es) x b:=by cases x<;>exact id
def Ob.Ok (P:Program) (G:Im) (X:Xm) (w:World):Ob->Value->Prop
 | .no,_=>True
 | .dead,_=>True
 | .box cs,x=>∃ b cur e,x=.pointer (some ⟨b,0,none⟩)/\w.heap[b]?=some (.cells cur e (0,0))/\V.IsL G X cs cur.toList/\G b=none
 | .arr es e md,x=>∃ xs i,P.info? e=some i/\zlJ w e i.size x es.length xs/\T.Rows G i.size es xs/\∀ a n c,x=.slice (some a) n (c+1)->G a.block=if md then none else some xs
 | .ro es,x=>T.Is G (.sl es) x
 | .dar es e,x=>T.IsO P G w (.ow e es) x/\(T.reach w (.ow e es) x).Nodup
 | .dah es e hs,x=>T.IsO P G w (.ow e es) x/\(T.reach w (.ow e es) x).Nodup/\∀ h∈hs,∃ a n c inf y,x=.slice (some a) n (c+1)/\P.info? e=some inf/\X h.2.2=some y/\(cellsOf w a.block)[h.1*inf.size+h.2.1]?=some y
 | .mp f,x=>∃ r es clock,x=.map (some r)/\w.heap[r]?=some (.map es clock)/\zp8 es.toList clock f
 | .mpx bm es clock,x=>x=.map (some bm)/\w.heap[bm]?=some (.map es clock)
 | .it mo si seen c0,x=>∃ r,x=.pointer (some ⟨r,0,none⟩)/\w.heap[r]?=some (.mapIter mo si seen c0)
structure zdr (own:Nat->Prop) (w w':World):Prop where
 os:w'.os=w.os
 tape:w'.tape=w.tape
 output:w'.output=w.output
 size:w.heap.size<=w'.heap.size
 block:∀ b,b < w.heap.size->¬ own b->w'.heap[b]?=w.heap[b]?
theorem zdr.refl (own:Nat->Prop) (w:World):zdr own w w:=⟨rfl,rfl,rfl,Nat.le_refl _,fun _ _ _=>rfl⟩
def Gok (G:Im) (w:World):Prop:=∀ b cs,G b=some cs->∃ cur e fr,w.heap[b]?=some (.cells cur e fr)/\∃ rest,cur.toList=cs++rest
theorem Gok.lt {G:Im} {w:World} (h:Gok G w) {b:Nat} {cs:List Value} (hb:G b=some cs):b < w.heap.size:=by
 obtain ⟨cur,e,fr,hw,_⟩:=h b cs hb;exact (Array.getElem?_eq_some_iff.1 hw).1
theorem Gok.none {G:Im} {w:World} (h:Gok G w) {b:Nat} (hb:w.heap.size<=b):G b=none:=by
 cases hg:G b with
 | none=>rfl
 | some cs=>exact absurd (h.lt hg) (by omega)
structure Cx where
 w0:World
 G0:Im
 own:Nat->Prop
 X0:Xm
def upd {α:Type} (f:Nat->α) (k:Nat) (v:α):Nat->α:=fun i=>if i=k then v else f i
theorem aE {α:Type} (f:Nat->α) (k:Nat) (v:α):upd f k v k=v:=by simp [upd]
theorem aJ {α:Type} (f:Nat->α) (k:Nat) (v:α) {i:Nat} (h:i≠k):upd f k v i=f i:=by simp [upd,h]
def zhl:List (String × String × (Array Value->Prop)) :=
 [("internal/strconv.uint64pow10","internal/strconv.uint64pow10",fun cs=>cs=(Go.Lib.pow10Tab.map fun z=>Value.int .u64 z).toArray),
  ("internal/bytealg.MaxLen","strconv.ErrSyntax",fun cs=>∃ m,cs[0]?=some (.int .i64 m)),
  ("strconv.ErrSyntax","strconv.ErrSyntax",fun cs=>∃ t p,cs=#[.iface t p]),
  ("strconv.ErrRange","strconv.ErrRange",fun cs=>∃ t p,cs=#[.iface t p]),
  ("loop.example/macroexpander/impl.coreForms","loop.example/macroexpander/impl.coreForms",fun cs=>cs=#[.string ⟨#[108,97,109,98,100,97]⟩,.string ⟨#[105,102]⟩,.string ⟨#[113,117,111,116,101]⟩,.string ⟨#[108,101,116]⟩,.string ⟨#[108,101,116,45,115,121,110,116,97,120]⟩])]
def zoN:List String:=["internal/strconv.uint64pow10","strconv.ErrSyntax","strconv.ErrRange","loop.example/macroexpander/impl.coreForms"]
theorem znV {p:String × String × (Array Value->Prop)} (h:p∈zhl):p.2.1∈zoN:=by
 simp only [zhl,List.mem_cons,List.not_mem_nil,or_false] at h;rcases h with rfl | rfl | rfl | rfl | rfl<;>simp [zoN]
def zrX (P:Program) (w:World):Prop:=∀ p∈zhl,∀ g,P.globalNamed p.1=some g->(P.globalNamed p.2.1).isSome=true->∃ cs e fr,w.heap[g]?=some (.cells cs e fr)/\p.2.2 cs
def TabC (P:Program) (C:Cx):Prop:=zrX P C.w0/\∀ p∈zhl,∀ g,P.globalNamed p.1=some g->(P.globalNamed p.2.1).isSome=true->¬ C.own g
def GleC (P:Program) (C:Cx) (G:Im):Prop:=TabC P C/\Gle C.G0 G
theorem GleC.trans {P:Program} {C:Cx} {G G':Im} (h:GleC P C G) (k:Gle G G'):GleC P C G':=⟨h.1,h.2.trans k⟩
theorem zrX.none {P:Program} {w:World} (h:zoN.all (fun n=>(P.globalNamed n).isNone)=true):zrX P w:=fun p hp g hg hc=>by
 have:=List.all_eq_true.1 h p.2.1 (znV hp);cases hx:P.globalNamed p.2.1<;>rw [hx] at hc this<;>simp_all
structure Mem (P:Program) (C:Cx) (m:Nat->Ob) (w:World) (G:Im) (X:Xm):Prop where
 gle:GleC P C G
 gold:∀ b,b < C.w0.heap.size->¬ C.own b->G b=C.G0 b
 gok:Gok G w
 keeps:zdr C.own C.w0 w
 ob:∀ k x,X k=some x->Ob.Ok P G X w (m k) x
 free:∀ k,X k=none↔m k=.no
 apart:∀ k k' x x' b,X k=some x->X k'=some x'->(m k).has w x b->(m k').has w x' b->k=k'
 mine:∀ k x b,X k=some x->(m k).has w x b->C.own b∨C.w0.heap.size<=b
 cell:∀ k x,X k=some x->x.oneCell'=true
 old:∀ k x,C.X0 k=some x->X k=some x
theorem Mem.tabW {P:Program} {C:Cx} {m:Nat->Ob} {w:World} {G:Im} {X:Xm} (h:Mem P C m w G X):zrX P w:=fun p hp g hg hc=>by
 obtain ⟨cs,e,fr,hw,hp2⟩:=h.gle.1.1 p hp g hg hc;refine ⟨cs,e,fr,?_,hp2⟩;rw [h.keeps.block g (Array.getElem?_eq_some_iff.1 hw).1 (h.gle.1.2 p hp g hg hc)];exact hw
theorem Mem.tabNo {P:Program} {C:Cx} {m:Nat->Ob} {w:World} {G:Im} {X:Xm} (h:Mem P C m w G X) {p:String × String × (Array Value->Prop)} (hp:p∈zhl) {g:Nat} (hg:P.globalNamed p.1=some g) (hc:(P.globalNamed p.2.1).isSome=true) {k:Nat} {x:Value} (hk:X k=some x):¬ (m k).has w x g:=fun hh=>by
 obtain ⟨_,e,fr,hw,_⟩:=h.gle.1.1 p hp g hg hc;have hl:=(Array.getElem?_eq_some_iff.1 hw).1;rcases h.mine k x g hk hh with h1 | h1
 ·exact h.gle.1.2 p hp g hg hc h1
 ·omega
section
variable {P:Program} {G:Im} {w:World}
mutual
theorem T.CellsO.sub:∀ (ts:List T) (l l':List Value),Sub l l'->T.CellsO P G w ts l->T.CellsO P G w ts l'
 | [],_,_,_,_=>trivial
 | t::ts,l,l',hs,h=>by
   obtain ⟨⟨c,hc,hi⟩,h2⟩:=h;exact ⟨⟨c,hs _ _ hc,hi⟩,T.CellsO.sub ts _ _ (hs.drop 1) h2⟩
end
theorem T.RowsO.sub (sz:Nat):∀ (es:List (List T)) (l l':List Value),Sub l l'->T.RowsO P G w sz es l->T.RowsO P G w sz es l'
 | [],_,_,_,_=>trivial
 | r::rs,l,l',hs,h=>⟨h.1,T.CellsO.sub r l l' hs h.2.1,T.RowsO.sub sz rs _ _ (hs.drop sz) h.2.2⟩
theorem gV {b:Nat} {cur:Array Value} {e:TypeId} {fr:Nat × Nat} (h:w.heap[b]?=some (.cells cur e fr)):cellsOf w b=cur.toList:=by unfold cellsOf;rw [h]
theorem bP {e:TypeId} {sz:Nat} {x:Value} {n:Nat} {xs:List Value} (h:zlJ w e sz x n xs):((∃ A,x=.slice A 0 0)/\n=0/\xs=[])∨∃ g cap cur,x=.slice (some ⟨g,0,none⟩) n (cap+1)/\w.heap[g]?=some (.cells cur e (0,0))/\g < w.heap.size/\n<=cap+1/\cap+1<=maxLen/\cur.size=(cap+1)*sz/\cur.toList.take (n*sz)=xs/\Sub xs (cellsOf w g):=by
 obtain ⟨h0,h | ⟨g,cap,cur,h1,h3,h4,h5,h6,h7⟩⟩:=h
 ·obtain ⟨h1,rfl⟩:=h;exact .inl ⟨h1,rfl,List.eq_nil_of_length_eq_zero (by simpa using h0)⟩
 ·refine .inr ⟨g,cap,cur,h1,h3,(Array.getElem?_eq_some_iff.1 h3).1,h4,h5,h6,h7,?_⟩;rw [gV h3,<- h7];intro i c hc;rw [List.getElem?_take] at hc;split at hc
  ·exact hc
  ·cases hc
mutual
theorem T.reach_lt:∀ (t:T) (x:Value),T.IsO P G w t x->∀ b∈T.reach w t x,b < w.heap.size/\G b=none
 | .sc _,x,_,b,hb=>by cases x<;>simp [T.reach] at hb
 | .sl _,x,_,b,hb=>by cases x<;>simp [T.reach] at hb
 | .any,x,_,b,hb=>by cases x<;>simp [T.reach] at hb
 | .ow e es,x,h,b,hb=>by
   obtain ⟨xs,i,hi,hown,hr,hn⟩:=h;rcases bP hown with ⟨⟨A,rfl⟩,_⟩ | ⟨g,cap,cur,rfl,hg,hlt,_,_,_,_,hsub⟩
   ·cases A<;>simp [T.reach] at hb
   ·rw [T.reach] at hb;rcases List.mem_cons.1 hb with rfl | hb
    ·exact ⟨hlt,hn _ _ _ rfl⟩
    ·exact T.reachR_lt i.size es _ (T.RowsO.sub i.size es _ _ hsub hr) b hb
theorem T.reachR_lt (sz:Nat):∀ (es:List (List T)) (l:List Value),T.RowsO P G w sz es l->∀ b∈T.reachR w es l,b < w.heap.size/\G b=none
 | [],_,_,b,hb=>by simp [T.reachR] at hb
 | r::rs,l,h,b,hb=>by
   rw [T.reachR] at hb;rcases List.mem_append.1 hb with hb | hb
   ·exact T.reachC_lt r l h.2.1 b hb
   ·rw [h.1] at hb;exact T.reachR_lt sz rs _ h.2.2 b hb
theorem T.reachC_lt:∀ (ts:List T) (l:List Value),T.CellsO P G w ts l->∀ b∈T.reachC w ts l,b < w.heap.size/\G b=none
 | [],_,_,b,hb=>by simp [T.reachC] at hb
 | t::ts,l,h,b,hb=>by
   obtain ⟨⟨c,hc,hi⟩,h2⟩:=h;rw [T.reachC,List.getD_eq_getElem?_getD,hc] at hb;rcases List.mem_append.1 hb with hb | hb
   ·exact T.reach_lt t c hi b hb
   ·exact T.reachC_lt ts _ h2 b hb
end
section
variable {G':Im} {w':World}
theorem T.CellsO.restrict:∀ (ts:List T) (l l':List Value),Sub l l'->T.CellsO P G w ts l->T.CellsO P G' w' ts l'->T.CellsO P G' w' ts l
 | [],_,_,_,_,_=>trivial
 | t::ts,l,l',hs,h,h'=>by
   obtain ⟨⟨c,hc,_⟩,h2⟩:=h;obtain ⟨⟨c',hc',hi⟩,h2'⟩:=h';have:=hs _ _ hc;rw [this] at hc';cases hc';exact ⟨⟨c,hc,hi⟩,T.CellsO.restrict ts _ _ (hs.drop 1) h2 h2'⟩
theorem T.RowsO.restrict (sz:Nat):∀ (es:List (List T)) (l l':List Value),Sub l l'->T.RowsO P G w sz es l->T.RowsO P G' w' sz es l'->T.RowsO P G' w' sz es l
 | [],_,_,_,_,_=>trivial
 | r::rs,l,l',hs,h,h'=>⟨h.1,T.CellsO.restrict r l l' hs h.2.1 h'.2.1,T.RowsO.restrict sz rs _ _ (hs.drop sz) h.2.2 h'.2.2⟩
mutual
theorem T.IsO.congr (hG:Gle G G'):∀ (t:T) (x:Value),(∀ b∈T.reach w t x,w'.heap[b]?=w.heap[b]?/\G' b=G b)->T.IsO P G w t x->T.IsO P G' w' t x/\T.reach w' t x=T.reach w t x
 | .sc _,x,_,h=>⟨h,by cases x<;>rfl⟩
 | .sl es,x,_,h=>⟨T.Is.mono hG (.sl es) x h,by cases x<;>rfl⟩
 | .any,x,_,h=>⟨h,by cases x<;>rfl⟩
 | .ow e es,x,hw,h=>by
   obtain ⟨xs,i,hi,hown,hr,hn⟩:=h;rcases bP hown with ⟨⟨A,rfl⟩,rfl',rfl''⟩ | ⟨g,cap,cur,rfl,hg,hlt,h4,h5,h6,h7,hsub⟩
   ·refine ⟨⟨xs,i,hi,⟨hown.1,.inl ⟨⟨A,rfl⟩,rfl'⟩⟩,?_,fun a n c ha=>by simp at ha⟩,by cases A<;>simp [T.reach]⟩;have:es=[]:=List.eq_nil_of_length_eq_zero rfl';subst this;exact trivial
   ·have hg2:=hw g (by rw [T.reach];simp);have hc:cellsOf w' g=cellsOf w g:=by unfold cellsOf;rw [hg2.1]
    have hR:=T.RowsO.congr hG i.size es (cellsOf w g) (fun b hb=>hw b (by rw [T.reach];simp [hb])) (T.RowsO.sub i.size es _ _ hsub hr);have hX:=T.RowsO.restrict i.size es xs (cellsOf w g) hsub hr hR.1;refine ⟨⟨xs,i,hi,⟨hown.1,.inr ⟨g,cap,cur,rfl,by rw [hg2.1];exact hg,h4,h5,h6,h7⟩⟩,hX,fun a n c ha=>?_⟩,?_⟩
    ·simp at ha;obtain ⟨rfl,_⟩:=ha;rw [hg2.2];exact hn _ _ _ rfl
    ·rw [T.reach,T.reach,hc,hR.2]
theorem T.RowsO.congr (hG:Gle G G') (sz:Nat):∀ (es:List (List T)) (l:List Value),(∀ b∈T.reachR w es l,w'.heap[b]?=w.heap[b]?/\G' b=G b)->T.RowsO P G w sz es l->T.RowsO P G' w' sz es l/\T.reachR w' es l=T.reachR w es l
 | [],_,_,_=>⟨trivial,rfl⟩
 | r::rs,l,hw,h=>by
   rw [T.reachR] at hw;have h1:=T.CellsO.congr hG r l (fun b hb=>hw b (List.mem_append_left _ hb)) h.2.1;have h2:=T.RowsO.congr hG sz rs (l.drop sz) (fun b hb=>hw b (List.mem_append_right _ (by rw [h.1];exact hb))) h.2.2;exact ⟨⟨h.1,h1.1,h2.1⟩,by rw [T.reachR,T.reachR,h1.2,h.1,h2.2]⟩
theorem T.CellsO.congr (hG:Gle G G'):∀ (ts:List T) (l:List Value),(∀ b∈T.reachC w ts l,w'.heap[b]?=w.heap[b]?/\G' b=G b)->T.CellsO P G w ts l->T.CellsO P G' w' ts l/\T.reachC w' ts l=T.reachC w ts l
 | [],_,_,_=>⟨trivial,rfl⟩
 | t::ts,l,hw,h=>by
   obtain ⟨⟨c,hc,hi⟩,h2⟩:=h;have e:l.getD 0 .nilIface=c:=by rw [List.getD_eq_getElem?_getD,hc];rfl
   rw [T.reachC,e] at hw;have h1:=T.IsO.congr hG t c (fun b hb=>hw b (List.mem_append_left _ hb)) hi;have h3:=T.CellsO.congr hG ts (l.drop 1) (fun b hb=>hw b (List.mem_append_right _ hb)) h2;exact ⟨⟨⟨c,hc,h1.1⟩,h3.1⟩,by rw [T.reachC,T.reachC,e,h1.2,h3.2]⟩
end
end
end
section
variable {P:Program} {C:Cx} {m:Nat->Ob} {w:World} {G:Im} {X:Xm}
theorem Ob.has_lt {o:Ob} {x:Value} (ho:Ob.Ok P G X w o x) {b:Nat} (hb:o.has w x b):b < w.heap.size:=by
 cases o with
 | no=>exact (Ob.has_no hb).elim
 | dead=>exact (Ob.has_dead hb).elim
 | ro es=>exact (Ob.has_ro hb).elim
 | box cs =>
   obtain ⟨b',cur,e,rfl,hw,_⟩:=ho;rw [Ob.has_box] at hb;subst hb;exact (Array.getElem?_eq_some_iff.1 hw).1
 | arr es e md =>
   obtain ⟨xs,i,hi,hown,_⟩:=ho;obtain ⟨a,n,c,rfl,rfl⟩:=Ob.has_arr'.1 hb;rcases bP hown with ⟨⟨A,h0⟩,_⟩ | ⟨g,cap,cur,h0,_,hlt,_⟩
   ·cases h0
   ·cases h0;exact hlt
 | mp f =>
   obtain ⟨r,es,clock,rfl,hr,_⟩:=ho;rw [Ob.has_mp] at hb;cases hb;exact (Array.getElem?_eq_some_iff.1 hr).1
 | mpx bm es clock =>
   obtain ⟨rfl,hr⟩:=ho;rw [Ob.has_mpx] at hb;cases hb;exact (Array.getElem?_eq_some_iff.1 hr).1
 | it mo si seen c0 =>
   obtain ⟨r,rfl,hr⟩:=ho;obtain ⟨a,ha,rfl⟩:=Ob.has_it.1 hb;cases ha;exact (Array.getElem?_eq_some_iff.1 hr).1
 | dar es e=>exact (T.reach_lt _ _ ho.1 b hb).1
 | dah es e hs=>exact (T.reach_lt _ _ ho.1 b hb).1
theorem Mem.blk_lt (h:Mem P C m w G X) {k:Nat} {x:Value} {b:Nat} (hx:X k=some x) (hb:(m k).has w x b):b < w.heap.size:=Ob.has_lt (h.ob k x hx) hb
theorem Ob.Ok.mono2 {o:Ob} {x:Value} {w':World} {G':Im} {X':Xm} (hG:Gle G G') (hX:Xle X X') (hg:∀ b,o.has w x b->G' b=G b)
  (hw:∀ b,o.has w x b->w'.heap[b]?=w.heap[b]?) (h:Ob.Ok P G X w o x):Ob.Ok P G' X' w' o x/\∀ b,o.has w' x b↔o.has w x b:=by
 cases o with
 | no=>exact ⟨trivial,fun b=>⟨fun h=>(Ob.has_no h).elim,fun h=>(Ob.has_no h).elim⟩⟩
 | dead=>exact ⟨trivial,fun b=>⟨fun h=>(Ob.has_dead h).elim,fun h=>(Ob.has_dead h).elim⟩⟩
 | ro es=>exact ⟨T.Is.mono hG _ _ h,fun b=>⟨fun h=>(Ob.has_ro h).elim,fun h=>(Ob.has_ro h).elim⟩⟩
 | box cs =>
   obtain ⟨b,cur,e,rfl,hb,hl,hn⟩:=h;exact ⟨⟨b,cur,e,rfl,by rw [hw b rfl];exact hb,V.IsL.mono hG hX _ _ hl,by rw [hg b rfl];exact hn⟩,fun b=>Iff.rfl⟩
 | arr es e md =>
   obtain ⟨xs,i,hi,hown,hr,hn⟩:=h;refine ⟨⟨xs,i,hi,⟨hown.1,?_⟩,T.Rows.mono hG _ _ _ _ (Sub.refl _) hr,?_⟩,fun b=>by rw [Ob.has_arr',Ob.has_arr']⟩
   ·rcases hown.2 with ho | ⟨g,cap,cur,hx,hh,rest⟩
    ·exact .inl ho
    ·exact .inr ⟨g,cap,cur,hx,by rw [hw g (by rw [hx];exact rfl)];exact hh,rest⟩
   ·intro a n c hx;rw [hg a.block (by rw [hx];exact rfl)];exact hn a n c hx
 | dar es e =>
   have:=T.IsO.congr hG (.ow e es) x (fun b hb=>⟨hw b hb,hg b hb⟩) h.1;exact ⟨⟨this.1,by rw [this.2];exact h.2⟩,fun b=>by show b∈T.reach w' _ _↔b∈T.reach w _ _;rw [this.2]⟩
 | mp f =>
   obtain ⟨r,es,clock,rfl,hr,he⟩:=h;exact ⟨⟨r,es,clock,rfl,by rw [hw r rfl];exact hr,he⟩,fun b=>by rw [Ob.has_mp,Ob.has_mp]⟩
 | mpx bm es clock =>
   obtain ⟨rfl,hr⟩:=h;exact ⟨⟨rfl,by rw [hw bm rfl];exact hr⟩,fun b=>by rw [Ob.has_mpx,Ob.has_mpx]⟩
 | it mo si seen c0 =>
   obtain ⟨r,rfl,hr⟩:=h;exact ⟨⟨r,rfl,by rw [hw r rfl];exact hr⟩,fun b=>by rw [Ob.has_it,Ob.has_it]⟩
 | dah es e hs =>
   have:=T.IsO.congr hG (.ow e es) x (fun b hb=>⟨hw b hb,hg b hb⟩) h.1;obtain ⟨h1,h2,h0⟩:=h;refine ⟨⟨this.1,by rw [this.2];exact h2,fun q hq=>?_⟩,fun b=>by show b∈T.reach w' _ _↔b∈T.reach w _ _;rw [this.2]⟩;obtain ⟨a,n,c,inf,y,h3,h4,h5,h6⟩:=h0 q hq;refine ⟨a,n,c,inf,y,h3,h4,hX _ _ h5,?_⟩;have hc:cellsOf w' a.block=cellsOf w a.block:=by
    unfold cellsOf;rw [hw a.block (by subst h3;show _∈T.reach w _ _;rw [T.reach];simp)]
   rw [hc];exact h6
theorem Ob.Ok.mono {o:Ob} {x:Value} {w':World} {G':Im} {X':Xm} (hG:Gle G G') (hX:Xle X X') (hg:∀ b,o.has w x b->G' b=G b)
  (hw:∀ b,o.has w x b->w'.heap[b]?=w.heap[b]?) (h:Ob.Ok P G X w o x):Ob.Ok P G' X' w' o x:=(Ob.Ok.mono2 hG hX hg hw h).1
theorem Ob.has_congr {o:Ob} {x:Value} {w':World} (hw:∀ b,o.has w x b->w'.heap[b]?=w.heap[b]?) (h:Ob.Ok P G X w o x) (b:Nat):o.has w' x b↔o.has w x b :=
 (Ob.Ok.mono2 (Gle.refl G) (Xle.refl X) (fun _ _=>rfl) hw h).2 b
theorem Mem.drew (h:Mem P C m w G X) (n:Nat):Mem P C m { w with drawn:=n } G X :=
 ⟨h.gle,h.gold,h.gok,⟨h.keeps.os,h.keeps.tape,h.keeps.output,h.keeps.size,h.keeps.block⟩,fun k x hx=>Ob.Ok.mono (w:=w) (w':={ w with drawn:=n }) (Gle.refl G) (Xle.refl X) (fun _ _=>rfl) (fun _ _=>rfl) (h.ob k x hx),h.free,
  fun k k' x x' b hx hx' hb hb'=>h.apart k k' x x' b hx hx' ((Ob.has_congr (w:=w) (w':={ w with drawn:=n }) (fun _ _=>rfl) (h.ob k x hx) b).1 hb) ((Ob.has_congr (w:=w) (w':={ w with drawn:=n }) (fun _ _=>rfl) (h.ob k' x' hx') b).1 hb'),
  fun k x b hx hb=>h.mine k x b hx ((Ob.has_congr (w:=w) (w':={ w with drawn:=n }) (fun _ _=>rfl) (h.ob k x hx) b).1 hb),h.cell,h.old⟩
theorem jO {k:Nat} {x:Value} (h:X k=none):Xle X (upd X k (some x)):=fun i y hy=>by
 by_cases hi:i=k
 ·subst hi;rw [h] at hy;cases hy
 ·rw [aJ _ _ _ hi];exact hy
theorem zd {o:Obj} {b:Nat} (h:b < w.heap.size):(w.alloc o).heap[b]?=w.heap[b]?:=heap_alloc_old w o b h
theorem Gok.alloc {G:Im} (h:Gok G w) (o:Obj):Gok G (w.alloc o):=fun b cs hb=>by
 obtain ⟨cur,e,fr,hw,hr⟩:=h b cs hb;exact ⟨cur,e,fr,by rw [zd (h.lt hb)];exact hw,hr⟩
theorem zdr.alloc {own:Nat->Prop} {w0:World} (h:zdr own w0 w) (o:Obj):zdr own w0 (w.alloc o) :=
 ⟨h.os,h.tape,h.output,by have:=h.size;simp;omega,fun b hb hn=>by rw [zd (by have:=h.size;omega)];exact h.block b hb hn⟩
theorem Mem.new (h:Mem P C m w G X) {id:Nat} (hid:m id=.no) (cur:Array Value) (e:TypeId) (o:Ob) (x:Value) (hno:o≠.no)
  (hok:Ob.Ok P G (upd X id (some x)) (w.alloc (.cells cur e)) o x) (hb:∀ b,o.has (w.alloc (.cells cur e)) x b->b=w.heap.size) (hone:x.oneCell'=true) :
  Mem P C (upd m id o) (w.alloc (.cells cur e)) G (upd X id (some x))/\Xle X (upd X id (some x)):=by
 have hX:X id=none:=(h.free id).2 hid;have hh:∀ k y b,X k=some y->(m k).has (w.alloc (.cells cur e)) y b->(m k).has w y b:=fun k y b hy hb=>(Ob.has_congr (fun b hb'=>zd (h.blk_lt hy hb')) (h.ob k y hy) b).1 hb
 refine ⟨⟨h.gle,h.gold,h.gok.alloc _,h.keeps.alloc _,?_,?_,?_,?_,?_,fun k y hk=>jO hX k y (h.old k y hk)⟩,jO hX⟩
 ·intro k y hy;by_cases hk:k=id
  ·subst hk;rw [aE] at hy ⊢;cases hy;exact hok
  ·rw [aJ _ _ _ hk] at hy ⊢;exact (h.ob k y hy).mono (Gle.refl G) (jO hX) (fun _ _=>rfl) (fun b hb'=>zd (h.blk_lt hy hb'))
 ·intro k;by_cases hk:k=id
  ·subst hk;rw [aE,aE];simp [hno]
  ·rw [aJ _ _ _ hk,aJ _ _ _ hk];exact h.free k
 ·intro k k' y y' b hy hy' B1 B2;by_cases hk:k=id<;>by_cases hk':k'=id
  ·rw [hk,hk']
  ·subst hk;rw [aE] at hy B1;rw [aJ _ _ _ hk'] at hy' B2;cases hy;have:=hb b B1;have:=h.blk_lt hy' (hh _ _ _ hy' B2);omega
  ·subst hk';rw [aE] at hy' B2;rw [aJ _ _ _ hk] at hy B1;cases hy';have:=hb b B2;have:=h.blk_lt hy (hh _ _ _ hy B1);omega
  ·rw [aJ _ _ _ hk] at hy B1;rw [aJ _ _ _ hk'] at hy' B2;exact h.apart k k' y y' b hy hy' (hh _ _ _ hy B1) (hh _ _ _ hy' B2)
 ·intro k y b hy B1;by_cases hk:k=id
  ·subst hk;rw [aE] at hy B1;cases hy;exact .inr (by have:=hb b B1;have:=h.keeps.size;omega)
  ·rw [aJ _ _ _ hk] at hy B1;exact h.mine k y b hy (hh _ _ _ hy B1)
 ·intro k y hy;by_cases hk:k=id
  ·subst hk;rw [aE] at hy;cases hy;exact hone
  ·rw [aJ _ _ _ hk] at hy;exact h.cell k y hy
theorem Mem.newBox (h:Mem P C m w G X) {id:Nat} (hid:m id=.no) (cur:Array Value) (e:TypeId) (cs:List V) (hl:V.IsL G X cs cur.toList) :
  Mem P C (upd m id (.box cs)) (w.alloc (.cells cur e)) G (upd X id (some (.pointer (some ⟨w.heap.size,0,none⟩))))/\Xle X (upd X id (some (.pointer (some ⟨w.heap.size,0,none⟩)))):=by
 refine h.new hid cur e _ _ (by simp) ?_ (fun b hb=>hb) rfl;exact ⟨w.heap.size,cur,e,rfl,heap_alloc_new w _,V.IsL.mono (Gle.refl G) (jO ((h.free id).2 hid)) _ _ hl,h.gok.none (Nat.le_refl _)⟩
theorem Mem.newArr (h:Mem P C m w G X) {id:Nat} (hid:m id=.no) (cur:Array Value) (e:TypeId) (i:TypeInfo) (hi:P.info? e=some i) (es:List (List T)) (hl:T.Rows G i.size es cur.toList)
  (hsz:cur.size=es.length*i.size) (hmax:es.length<=maxLen) :
  Mem P C (upd m id (.arr es e true)) (w.alloc (.cells cur e)) G (upd X id (some (.slice (some ⟨w.heap.size,0,none⟩) es.length es.length)))/\Xle X (upd X id (some (.slice (some ⟨w.heap.size,0,none⟩) es.length es.length))):=by
 refine h.new hid cur e _ _ (by simp) ?_ (fun b hb=>?_) rfl
 ·refine ⟨cur.toList,i,hi,zjQ ⟨by simpa using hsz,.inr ⟨w.heap.size,es.length,cur,rfl,Nat.zero_le _,heap_alloc_new w _,Nat.le_refl _,hmax,hsz,?_⟩⟩,hl,?_⟩
  ·exact List.take_of_length_le (by simp [hsz])
  ·intro a n c ha;simp at ha;obtain ⟨rfl,_⟩:=ha;simpa using h.gok.none (Nat.le_refl _)
 ·obtain ⟨a,n,c,ha,hb⟩:=Ob.has_arr'.1 hb;simp at ha;obtain ⟨rfl,_⟩:=ha;exact hb
end
end Go.Abs
end
section
namespace Go.Abs
section
variable {P:Program} {C:Cx} {m:Nat->Ob} {w:World} {G:Im} {X:Xm}
theorem zbt {own:Nat->Prop} {w0:World} (h:zdr own w0 w) {b:Nat} (hb:own b∨w0.heap.size<=b) (cur:Array Value):zdr own w0 (w.setRow b cur) :=
 ⟨h.os,h.tape,h.output,by simpa using h.size,fun k hk hn=>by
  rw [setRow_other w b k cur (by rintro rfl;rcases hb with hb | hb;exact hn hb;omega)];exact h.block k hk hn⟩
theorem wU (h:Gok G w) {b:Nat} (hb:G b=none) (cur:Array Value):Gok G (w.setRow b cur):=fun k cs hk=>by
 obtain ⟨c,e,fr,hw,hr⟩:=h k cs hk;exact ⟨c,e,fr,by rw [setRow_other w b k cur (by rintro rfl;rw [hb] at hk;cases hk)];exact hw,hr⟩
theorem Mem.rewrite (h:Mem P C m w G X) {k:Nat} {x:Value} {b:Nat} (hx:X k=some x) (hb:(m k).has w x b) (hG:G b=none) (cur:Array Value) (o:Ob)
  (hno:o≠.no) (hbl:∀ b',o.has (w.setRow b cur) x b'->(m k).has w x b') (hok:Ob.Ok P G X (w.setRow b cur) o x):Mem P C (upd m k o) (w.setRow b cur) G X:=by
 have hh:∀ k1 y b',k1≠k->X k1=some y->(m k1).has (w.setRow b cur) y b'->(m k1).has w y b':=fun k1 y b' hk hy hb' =>
  (Ob.has_congr (fun b2 B2=>setRow_other w b b2 cur (by rintro rfl;exact hk (h.apart k1 k y x _ hy hx B2 hb))) (h.ob k1 y hy) b').1 hb'
 refine ⟨h.gle,h.gold,wU h.gok hG cur,zbt h.keeps (h.mine k x b hx hb) cur,?_,?_,?_,?_,h.cell,h.old⟩
 ·intro k' y hy;by_cases hk:k'=k
  ·subst hk;rw [aE];rw [hx] at hy;cases hy;exact hok
  ·rw [aJ _ _ _ hk];refine (h.ob k' y hy).mono (Gle.refl G) (Xle.refl X) (fun _ _=>rfl) (fun b' hb'=>?_);exact setRow_other w b b' cur (by rintro rfl;exact hk (h.apart k' k y x _ hy hx hb' hb))
 ·intro k';by_cases hk:k'=k
  ·subst hk;rw [aE,hx];simp [hno]
  ·rw [aJ _ _ _ hk];exact h.free k'
 ·have f:∀ k1 y1 b',X k1=some y1->(upd m k o k1).has (w.setRow b cur) y1 b'->(m k1).has w y1 b':=fun k1 y1 b' h1 B1=>by
   by_cases e1:k1=k
   ·subst e1;rw [aE] at B1;rw [hx] at h1;cases h1;exact hbl b' B1
   ·rw [aJ _ _ _ e1] at B1;exact hh k1 y1 b' e1 h1 B1
  intro k1 k2 y1 y2 b' h1 h2 B1 B2;exact h.apart _ _ _ _ _ h1 h2 (f _ _ _ h1 B1) (f _ _ _ h2 B2)
 ·intro k1 y b' h1 B1;by_cases e1:k1=k
  ·subst e1;rw [aE] at B1;rw [hx] at h1;cases h1;exact h.mine k1 x _ hx (hbl b' B1)
  ·rw [aJ _ _ _ e1] at B1;exact h.mine k1 y b' h1 (hh k1 y b' e1 h1 B1)
theorem Ob.Ok.is {es:List (List T)} {e:TypeId} {x:Value} (h:Ob.Ok P G X w (.arr es e false) x):T.Is G (.sl es) x:=by
 obtain ⟨xs,i,hi,hown,hr,hn⟩:=h;rcases hown.2 with ⟨⟨A,rfl⟩,h0⟩ | ⟨g,cap,cur,rfl,hh,hc,hcm,_,_⟩
 ·have:es=[]:=List.eq_nil_of_length_eq_zero h0;subst this;exact ⟨A,0,0,rfl,Nat.le_refl _,Nat.zero_le _,.inl rfl⟩
 ·exact ⟨_,cap+1,i.size,rfl,hc,hcm,.inr ⟨g,0,xs,rfl,hn _ _ _ rfl,by simpa using hr⟩⟩
theorem Ob.Ok.grow {o:Ob} {x:Value} {G':Im} (hG:Gle G G') (hg:∀ b,o.has w x b->G' b=G b) (h:Ob.Ok P G X w o x):Ob.Ok P G' X w o x :=
 h.mono hG (Xle.refl X) hg (fun _ _=>rfl)
theorem Mem.freeze (h:Mem P C m w G X) {k:Nat} {es:List (List T)} {e:TypeId} {x:Value} (hm:m k=.arr es e true) (hx:X k=some x) :
  ∃ G',Gle G G'/\Mem P C (upd m k (.arr es e false)) w G' X:=by
 have ho:=h.ob k x hx;rw [hm] at ho;obtain ⟨xs,i,hi,hown,hr,hn⟩:=ho;have hbl:∀ y b,Ob.has w (.arr es e false) y b↔(m k).has w y b:=fun y b=>by rw [hm,Ob.has_arr',Ob.has_arr']
 have general:∀ (G':Im),Gle G G'->(∀ b,G' b≠G b->(m k).has w x b)->Gok G' w->Ob.Ok P G' X w (.arr es e false) x->Mem P C (upd m k (.arr es e false)) w G' X:=by
  intro G' hle hd hgok hok;refine ⟨h.gle.trans hle,?_,hgok,h.keeps,?_,?_,?_,?_,h.cell,h.old⟩
  ·intro b hb hnb;by_cases e1:G' b=G b
   ·rw [e1];exact h.gold b hb hnb
   ·rcases h.mine k x b hx (hd b e1) with h1 | h1
    ·exact absurd h1 hnb
    ·omega
  ·intro k' y hy;by_cases hk:k'=k
   ·subst hk;rw [aE];rw [hx] at hy;cases hy;exact hok
   ·rw [aJ _ _ _ hk];refine (h.ob k' y hy).grow hle fun b hb=>?_
    by_cases e1:G' b=G b
    ·exact e1
    ·exact absurd (h.apart k' k y x b hy hx hb (hd b e1)) hk
  ·intro k';by_cases hk:k'=k
   ·subst hk;rw [aE,hx];simp
   ·rw [aJ _ _ _ hk];exact h.free k'
  ·intro k1 k2 y1 y2 b' h1 h2 B1 B2;have f:∀ k1 y1,X k1=some y1->(upd m k (.arr es e false) k1).has w y1 b'->(m k1).has w y1 b':=fun k1 y1 h1 B1=>by
    by_cases e1:k1=k
    ·subst e1;rw [aE] at B1;exact (hbl _ _).1 B1
    ·rw [aJ _ _ _ e1] at B1;exact B1
   exact h.apart _ _ _ _ _ h1 h2 (f _ _ h1 B1) (f _ _ h2 B2)
  ·intro k1 y b' h1 B1;by_cases e1:k1=k
   ·subst e1;rw [aE] at B1;exact h.mine k1 y b' h1 ((hbl _ _).1 B1)
   ·rw [aJ _ _ _ e1] at B1;exact h.mine k1 y b' h1 B1
 rcases hown.2 with ⟨⟨A,rfl⟩,h0⟩ | ⟨g,cap,cur,rfl,hh,hc,hcm,hcs,htake⟩
 ·exact ⟨G,Gle.refl G,general G (Gle.refl G) (fun b hb=>absurd rfl hb) h.gok ⟨xs,i,hi,hown,hr,by intro a n c hx;simp at hx⟩⟩
 ·have hgn:G g=none:=by simpa using hn _ _ _ rfl
  have hle:Gle G (upd G g (some xs)):=fun b cs hb=>by
   by_cases e1:b=g
   ·subst e1;rw [hgn] at hb;cases hb
   ·exact ⟨[],by rw [aJ _ _ _ e1,hb,List.append_nil]⟩
  refine ⟨upd G g (some xs),hle,general _ hle ?_ ?_ ?_⟩
  ·intro b hb;by_cases e1:b=g
   ·subst e1;rw [hm];exact rfl
   ·rw [aJ _ _ _ e1] at hb;exact absurd rfl hb
  ·intro b cs hb;by_cases e1:b=g
   ·subst e1;rw [aE] at hb;cases hb;exact ⟨cur,e,_,hh,_,by rw [<- htake];exact (List.take_append_drop _ _).symm⟩
   ·rw [aJ _ _ _ e1] at hb;exact h.gok b cs hb
  ·refine ⟨xs,i,hi,hown,T.Rows.mono hle _ _ _ _ (Sub.refl _) hr,?_⟩;intro a n c ha;simp at ha;obtain ⟨rfl,_⟩:=ha;simp [aE]
theorem zaq (t ty e:TypeId) (i:TypeInfo) (z:Value) (ht:P.underlying t=some (.slice e)) (hi:P.info? e=some i) (hz:i.zero=some z) (hzs:z.cells.size=i.size)
  (x:Value) (n:Nat) (xs:List Value) (hown:w.ownsRow 0 e i.size x n xs) (B:Option Addr) (c mm:Nat) (news:List Value) (hl:news.length=mm*i.size)
  (hnews:mm=0∨∃ a,B=some a/\∀ j u,news[j]?=some u->w.cell? (a.add j)=some u) (h1:∀ u∈news,u.oneCell'=true) (hbytes:(n+mm)*i.bytes<=140737488355328) (h63:n+mm<=maxLen) :
  ∃ v' w',(Builtin.append_ #[t,t] ty #[x,.slice B mm c]).run P w=.ok v' w'/\w'.ownsRow 0 e i.size v' (n+mm) (xs++news) /\
    ((v'=x/\w'=w/\mm=0)∨(∃ g cap cur cur' rest,x=.slice (some ⟨g,0,none⟩) n cap/\v'=.slice (some ⟨g,0,none⟩) (n+mm) cap/\w.heap[g]?=some (.cells cur e (0,0))/\w'=w.setRow g cur'/\cur'.toList=(xs++news)++rest) ∨
     (∃ cap' cur' rest,v'=.slice (some ⟨w.heap.size,0,none⟩) (n+mm) cap'/\w'=w.drew.alloc (.cells cur' e)/\cur'.toList=(xs++news)++rest)):=by
 have hsmall:n+mm<=9223372036854775807:=by simp only [maxLen] at h63;omega
 have hlen:(xs++news).length=(n+mm)*i.size:=by rw [List.length_append,hown.1,hl,Nat.add_mul]
 by_cases hm0:mm=0
 ·subst hm0;have hn0:news=[]:=List.eq_nil_of_length_eq_zero (by simpa using hl);subst hn0;refine ⟨x,w,?_,by simpa using hown,.inl ⟨rfl,rfl,rfl⟩⟩;rcases hown.2 with ⟨rfl,rfl⟩ | ⟨g,cap,cur,rfl,_,_,hc,_⟩<;>cases B <;>
   simp [Builtin.append_,run_underlying ht,sizeOf,typeInfo,hi,Builtin.lenOf,Builtin.firstCells,loadCells,loadCellsFrom,storeCells, *]
 ·obtain ⟨a,rfl,hnw⟩:=hnews.resolve_left hm0;clear hnews;have grown:∀ (old:Nat),old < n+mm ->
    (w.drew.alloc (.cells (xs.toArray++news.toArray++Builtin.zeroCells z.cells (grownCap w (n+mm) old e-(n+mm))) e)).ownsRow 0 e i.size
     (.slice (some ⟨w.heap.size,0,none⟩) (n+mm) (grownCap w (n+mm) old e)) (n+mm) (xs++news):=by
   intro old ho;refine ⟨hlen,.inr ⟨w.heap.size,_,_,rfl,Nat.zero_le _,heap_alloc_new w.drew _,grownCap_ge w (n+mm) old e,grownCap_le_maxLen w (n+mm) old e h63,?_,?_⟩⟩
   ·have:=grownCap_ge w (n+mm) old e;simp only [Array.size_append,List.size_toArray,size_zeroCells,hzs,hown.1,hl,<- Nat.add_mul];congr 1;omega
   ·simp only [Array.toList_append,List.append_assoc];rw [<- List.append_assoc,<- hlen];exact List.take_left
  rcases hown.2 with ⟨rfl,rfl⟩ | ⟨g,cap,cur,rfl,_,hg,hc,hcm,hcs,htake⟩
  ·have hx:xs=[]:=List.eq_nil_of_length_eq_zero (by simpa using hown.1);subst hx;have hb':mm*i.bytes<=281474976710656:=by rw [Nat.zero_add] at hbytes;omega
   have hr:=run_append_nil (P:=P) w t ty e i z ht hi hz a mm c news hl hnw (by omega) (by omega) hb';have hgr:=grown 0 (by omega);simp only [Nat.zero_add,List.nil_append] at hgr ⊢;simp only [Array.empty_append,List.toArray,List.nil_append] at hgr;refine ⟨_,_,hr,hgr,.inr (.inr ⟨_,_,(Builtin.zeroCells z.cells (grownCap w mm 0 e-mm)).toList,rfl,rfl,by simp⟩)⟩
  ·by_cases hroom:n+mm<=cap
   ·have hfit:n*i.size+news.length<=cur.size:=by rw [hl,hcs,<- Nat.add_mul];exact Nat.mul_le_mul_right _ hroom
    have hr:=run_append_room (P:=P) w t ty e i ht hi g n cap cur hg a mm c news hl hnw h1 hroom hfit;refine ⟨_,_,hr,⟨hlen,.inr ⟨g,cap,_,rfl,Nat.zero_le _,setRow_heap w g cur _ e _ hg,hroom,hcm,?_,?_⟩⟩,.inr (.inl ⟨g,cap,cur,_,cur.toList.drop (n*i.size+news.length),rfl,rfl,hg,rfl,by rw [htake]⟩)⟩
    ·simp only [List.size_toArray,List.length_append,List.length_take,List.length_drop,Array.length_toList];omega
    ·rw [htake,<- hlen];exact List.take_left
   ·have holds:∀ j u,xs[j]?=some u->w.cell? ((⟨g,0,none⟩:Addr).add j)=some u:=hown.cells (g:=g) rfl;have hr:=run_append_grow (P:=P) w t ty e i z ht hi hz ⟨g,0,none⟩ n cap xs hown.1 holds a mm c news hl hnw (by omega) (by omega) (growslice_fits (by omega) hbytes);exact ⟨_,_,hr,grown cap (by omega),.inr (.inr ⟨_,_,(Builtin.zeroCells z.cells (grownCap w (n+mm) cap e-(n+mm))).toList,rfl,rfl,by simp⟩)⟩
theorem zdV (t ty e:TypeId) (i:TypeInfo) (z:Value) (ht:P.underlying t=some (.slice e)) (hi:P.info? e=some i) (hz:i.zero=some z) (hzs:z.cells.size=i.size)
  (A:Option Addr) (B:Option Addr) (c mm:Nat) (news:List Value) (hl:news.length=mm*i.size)
  (hnews:mm=0∨∃ a,B=some a/\∀ j u,news[j]?=some u->w.cell? (a.add j)=some u) (h1:∀ u∈news,u.oneCell'=true) (hbytes:mm*i.bytes<=140737488355328) (h63:mm<=maxLen) :
  ∃ v' w',(Builtin.append_ #[t,t] ty #[.slice A 0 0,.slice B mm c]).run P w=.ok v' w' /\
    ((v'=.slice A 0 0/\w'=w/\mm=0)∨(∃ cap' cur' rest,v'=.slice (some ⟨w.heap.size,0,none⟩) mm cap'/\w'=w.drew.alloc (.cells cur' e)/\cur'.toList=news++rest/\mm<=cap'/\cap'<=maxLen/\cur'.size=cap'*i.size)):=by
 have hsmall:mm<=9223372036854775807:=by simp only [maxLen] at h63;omega
 by_cases hm0:mm=0
 ·subst hm0;have hn0:news=[]:=List.eq_nil_of_length_eq_zero (by simpa using hl);subst hn0;refine ⟨_,w,?_,.inl ⟨rfl,rfl,rfl⟩⟩;cases A<;>cases B <;>
   simp [Builtin.append_,run_underlying ht,sizeOf,typeInfo,hi,Builtin.lenOf,Builtin.firstCells,loadCells,loadCellsFrom,storeCells]
 ·cases A with
  | none =>
    obtain ⟨v',w',hrun,hown,hc⟩:=zaq (P:=P) (w:=w) t ty e i z ht hi hz hzs (.slice none 0 0) 0 [] (World.ownsRow_nil w 0 e i.size) B c mm news hl hnews h1 (by simpa using hbytes) (by simpa using h63);refine ⟨v',w',hrun,.inr ?_⟩;rcases hc with ⟨_,_,h⟩ | ⟨g,cap,cur,cur',rest,hx,_⟩ | ⟨cap',cur',rest,rfl,rfl,hcur⟩
    ·exact absurd h hm0
    ·cases hx
    ·refine ⟨cap',cur',rest,by rw [Nat.zero_add],rfl,by simpa using hcur,?_⟩;rcases hown.2 with ⟨h,_⟩ | ⟨g,cap,cur,h,_,hh,h3,h4,h5,_⟩
     ·cases h
     ·cases h;have hh2:(w.drew.alloc (.cells cur' e)).heap[w.heap.size]?=some (.cells cur' e):=heap_alloc_new w.drew _;rw [hh2] at hh;cases hh;exact ⟨by omega,h4,h5⟩
  | some b =>
    obtain ⟨a,rfl,hnw⟩:=hnews.resolve_left hm0;have hr:=run_append_grow (P:=P) w t ty e i z ht hi hz b 0 0 [] (by simp) (by simp) a mm c news hl hnw (by omega) (by omega) (growslice_fits (by omega) (by simpa using hbytes));refine ⟨_,_,hr,.inr ⟨_,_,_,by rw [Nat.zero_add],rfl,by simp only [Array.toList_append,List.append_assoc,List.toList_toArray,List.nil_append];rfl,?_,?_,?_⟩⟩
    ·have:=grownCap_ge w (0+mm) 0 e;simpa using this
    ·have:=grownCap_le_maxLen w (0+mm) 0 e (by omega);simpa using this
    ·have:=grownCap_ge w (0+mm) 0 e;simp only [Array.size_append,List.size_toArray,size_zeroCells,hzs,hl,List.length_nil,Nat.zero_add,<- Nat.add_mul] at this ⊢;congr 1;omega
theorem u5 (t ty e:TypeId) (i:TypeInfo) (z:Value) (ht:P.underlying t=some (.slice e)) (hi:P.info? e=some i) (hz:i.zero=some z) (hzs:z.cells.size=i.size)
  (x:Value) (n:Nat) (xs:List Value) (hown:zlJ w e i.size x n xs) (B:Option Addr) (c mm:Nat) (news:List Value) (hl:news.length=mm*i.size)
  (hnews:mm=0∨∃ a,B=some a/\∀ j u,news[j]?=some u->w.cell? (a.add j)=some u) (h1:∀ u∈news,u.oneCell'=true) (hbytes:(n+mm)*i.bytes<=140737488355328) (h63:n+mm<=maxLen) :
  ∃ v' w',(Builtin.append_ #[t,t] ty #[x,.slice B mm c]).run P w=.ok v' w'/\zlJ w' e i.size v' (n+mm) (xs++news) /\
    ((v'=x/\w'=w/\mm=0)∨(∃ g cap cur cur' rest,x=.slice (some ⟨g,0,none⟩) n (cap+1)/\v'=.slice (some ⟨g,0,none⟩) (n+mm) (cap+1)/\w.heap[g]?=some (.cells cur e (0,0))/\w'=w.setRow g cur'/\cur'.toList=(xs++news)++rest) ∨
     (∃ cap' cur' rest,v'=.slice (some ⟨w.heap.size,0,none⟩) (n+mm) cap'/\w'=w.drew.alloc (.cells cur' e)/\cur'.toList=(xs++news)++rest)):=by
 rcases bP hown with ⟨⟨A,rfl⟩,rfl,rfl⟩ | ⟨g,cap,cur,rfl,hg,hlt,h4,h5,h6,h7,hsub⟩
 ·obtain ⟨v',w',hrun,hc⟩:=zdV (P:=P) (w:=w) t ty e i z ht hi hz hzs A B c mm news hl hnews h1 (by simpa using hbytes) (by simpa using h63);refine ⟨v',w',hrun,?_,?_⟩
  ·rcases hc with ⟨rfl,rfl,rfl⟩ | ⟨cap',cur',rest,rfl,rfl,hcur,q1,q2,q3⟩
   ·have:news=[]:=List.eq_nil_of_length_eq_zero (by simpa using hl);subst this;exact zbo _ _ _ _
   ·refine zjQ ⟨by simpa using hl,.inr ⟨w.heap.size,cap',cur',by rw [Nat.zero_add],Nat.zero_le _,heap_alloc_new w.drew _,by omega,q2,q3,?_⟩⟩;rw [hcur,Nat.zero_add,<- hl,List.nil_append];exact List.take_left
  ·rcases hc with h | ⟨cap',cur',rest,rfl,rfl,hcur,q1,q2,q3⟩
   ·exact .inl h
   ·exact .inr (.inr ⟨cap',cur',rest,by rw [Nat.zero_add],rfl,by simpa using hcur⟩)
 ·obtain ⟨v',w',hrun,h2,hc⟩:=zaq (P:=P) (w:=w) t ty e i z ht hi hz hzs _ n xs ⟨hown.1,.inr ⟨g,cap+1,cur,rfl,Nat.zero_le _,hg,h4,h5,h6,h7⟩⟩ B c mm news hl hnews h1 hbytes h63;refine ⟨v',w',hrun,zjQ h2,?_⟩;rcases hc with h | ⟨g1,cap1,cur1,cur',rest,hx,rest2⟩ | h
  ·exact .inl h
  ·cases hx;exact .inr (.inl ⟨g,cap,cur1,cur',rest,rfl,rest2⟩)
  ·exact .inr (.inr h)
theorem Mem.fresh (h:Mem P C m w G X) (cur:Array Value) (e:TypeId) (cs:List Value) (hc:∃ rest,cur.toList=cs++rest) :
  Mem P C m (w.drew.alloc (.cells cur e)) (fun b=>if b=w.heap.size then some cs else G b) X/\Gle G (fun b=>if b=w.heap.size then some cs else G b):=by
 have hn:G w.heap.size=none:=h.gok.none (Nat.le_refl _);have hle:Gle G (fun b=>if b=w.heap.size then some cs else G b):=fun b ds hb=>by
  by_cases hbe:b=w.heap.size
  ·subst hbe;rw [hn] at hb;cases hb
  ·exact ⟨[],by simp only [if_neg hbe,List.append_nil];exact hb⟩
 have hsz:w.drew.heap.size=w.heap.size:=rfl;have hold:∀ k x,X k=some x->∀ b,(m k).has w x b->(w.drew.alloc (.cells cur e)).heap[b]?=w.heap[b]?:=fun k x hx b hb=>heap_alloc_old w.drew _ b (h.blk_lt hx hb)
 have hh:∀ k x b,X k=some x->(m k).has (w.drew.alloc (.cells cur e)) x b->(m k).has w x b:=fun k x b hx hb=>(Ob.has_congr (hold k x hx) (h.ob k x hx) b).1 hb
 refine ⟨⟨h.gle.trans hle,?_,?_,?_,?_,h.free,fun k k' x x' b hx hx' hb hb'=>h.apart k k' x x' b hx hx' (hh _ _ _ hx hb) (hh _ _ _ hx' hb'),?_,h.cell,h.old⟩,hle⟩
 ·intro b hb ho;have:=h.keeps.size;simp only [if_neg (show b≠w.heap.size by omega)];exact h.gold b hb ho
 ·intro b ds hb;by_cases hbe:b=w.heap.size
  ·subst hbe;simp only [if_pos] at hb;cases hb;exact ⟨cur,e,_,heap_alloc_new w.drew _,hc⟩
  ·simp only [if_neg hbe] at hb;obtain ⟨cu,e',fr,hw,hr⟩:=h.gok b ds hb;exact ⟨cu,e',fr,by rw [heap_alloc_old w.drew _ b (h.gok.lt hb)];exact hw,hr⟩
 ·exact zdr.alloc (w:=w.drew) ⟨h.keeps.os,h.keeps.tape,h.keeps.output,h.keeps.size,h.keeps.block⟩ _
 ·intro k x hx;exact (h.ob k x hx).mono hle (Xle.refl X) (fun b hb=>by
   have:=h.blk_lt hx hb;simp only [if_neg (show b≠w.heap.size by omega)]) (hold k x hx)
 ·exact fun k x b hx hb=>h.mine k x b hx (hh _ _ _ hx hb)
theorem Mem.append (h:Mem P C m w G X) {k id:Nat} {es fs:List (List T)} {e:TypeId} {md:Bool} {x:Value} (hm:m k=.arr es e md) (hx:X k=some x) (hid:m id=.no)
  (t ty:TypeId) (i:TypeInfo) (z:Value) (ht:P.underlying t=some (.slice e)) (hi:P.info? e=some i) (hz:i.zero=some z) (hzs:z.cells.size=i.size)
  (B:Option Addr) (c:Nat) (news:List Value) (hl:news.length=fs.length*i.size) (hr2:T.Rows G i.size fs news)
  (hnews:fs.length=0∨∃ a,B=some a/\∀ j u,news[j]?=some u->w.cell? (a.add j)=some u) (h1:∀ u∈news,u.oneCell'=true) (hbytes:(es.length+fs.length)*i.bytes<=140737488355328) (h63:es.length+fs.length<=maxLen) :
  ∃ v' w' G',(Builtin.append_ #[t,t] ty #[x,.slice B fs.length c]).run P w=.ok v' w'/\Gle G G'/\Xle X (upd X id (some v')) /\
    Mem P C (upd (upd m k (if md then .dead else .ro es)) id (.arr (es++fs) e md)) w' G' (upd X id (some v')):=by
 have hXid:X id=none:=(h.free id).2 hid;have hkid:k≠id:=by rintro rfl;rw [hx] at hXid;cases hXid
 have ho:=h.ob k x hx;have hro:md=false->T.Is G (.sl es) x:=fun hmd=>by rw [hm,hmd] at ho;exact ho.is
 rw [hm] at ho;obtain ⟨xs,i',hi',hown,hr,hn⟩:=ho;rw [hi] at hi';cases hi';obtain ⟨v',w',hrun,hown',hcases⟩:=u5 (P:=P) t ty e i z ht hi hz hzs x es.length xs hown B c fs.length news hl hnews h1 hbytes h63;have hxl:xs.length=es.length*i.size:=hown.1;have hone:v'.oneCell'=true:=by
  rcases hcases with ⟨rfl,_⟩ | ⟨g,cap,cur,cur',rest,_,rfl,_⟩ | ⟨cap',cur',rest,rfl,_⟩
  ·exact h.cell k _ hx
  ·rfl
  ·rfl
 -- the new knowledge
 have key:∃ G',Gle G G'/\(∀ b,G' b≠G b->(m k).has w x b∨w.heap.size<=b)/\Gok G' w'/\(∀ b,b < w.heap.size->¬ (m k).has w x b->w'.heap[b]?=w.heap[b]?) /\
   (∀ b,Ob.has w' (.arr (es++fs) e md) v' b->((m k).has w x b∨w.heap.size<=b)/\G' b=if md then none else some (xs++news)) /\
   w'.os=w.os/\w'.tape=w.tape/\w'.output=w.output/\w.heap.size<=w'.heap.size:=by
  rcases hcases with ⟨rfl,rfl,h0⟩ | ⟨g,cap,cur,cur',rest,rfl,rfl,hg,rfl,hcur⟩ | ⟨cap',cur',rest,rfl,rfl,hcur⟩
  ·have hn0:news=[]:=List.eq_nil_of_length_eq_zero (by rw [hl,h0,Nat.zero_mul]);refine ⟨G,Gle.refl G,fun b hb=>absurd rfl hb,h.gok,fun _ _ _=>rfl,fun b hb=>?_,rfl,rfl,rfl,Nat.le_refl _⟩;obtain ⟨a,n',c',hv,B2⟩:=Ob.has_arr'.1 hb;have hb':(m k).has w' v' b:=by rw [hm,Ob.has_arr'];exact ⟨a,n',c',hv,B2⟩
   refine ⟨.inl hb',?_⟩;subst B2;rw [hn0,List.append_nil];exact hn a n' c' hv
  ·have hgk:(m k).has w (.slice (some ⟨g,0,none⟩) es.length (cap+1)) g:=by rw [hm];exact rfl
   have hGg:=hn ⟨g,0,none⟩ es.length cap rfl;cases md with
   | true =>
     have hGn:G g=none:=by simpa using hGg
     refine ⟨G,Gle.refl G,fun b hb=>absurd rfl hb,wU h.gok hGn _,fun b _ hb=>setRow_other w g b _ (by rintro rfl;exact hb hgk),fun b hb=>?_,rfl,rfl,rfl,by simp⟩;obtain rfl:=hb;exact ⟨.inl hgk,by simpa using hGn⟩
   | false =>
     have hGs:G g=some xs:=by simpa using hGg
     refine ⟨upd G g (some (xs++news)),?_,?_,?_,fun b _ hb=>setRow_other w g b _ (by rintro rfl;exact hb hgk),fun b hb=>?_,rfl,rfl,rfl,by simp⟩
     ·intro b cs hb;by_cases e1:b=g
      ·subst e1;rw [hGs] at hb;cases hb;exact ⟨news,aE _ _ _⟩
      ·exact ⟨[],by rw [aJ _ _ _ e1,hb,List.append_nil]⟩
     ·intro b hb;by_cases e1:b=g
      ·subst e1;exact .inl hgk
      ·rw [aJ _ _ _ e1] at hb;exact absurd rfl hb
     ·intro b cs hb;by_cases e1:b=g
      ·subst e1;rw [aE] at hb;cases hb;exact ⟨cur',e,_,setRow_heap w b cur cur' e _ hg,rest,hcur⟩
      ·rw [aJ _ _ _ e1] at hb;obtain ⟨c1,e2,fr,hw,hr1⟩:=h.gok b cs hb;exact ⟨c1,e2,fr,by rw [setRow_other w g b _ e1];exact hw,hr1⟩
     ·obtain rfl:=hb;exact ⟨.inl hgk,by rw [aE];rfl⟩
  ·have hGn:G w.heap.size=none:=h.gok.none (Nat.le_refl _);have hgok':Gok G (w.drew.alloc (.cells cur' e)):=Gok.alloc (w:=w.drew) h.gok _;cases md with
   | true =>
     refine ⟨G,Gle.refl G,fun b hb=>absurd rfl hb,hgok',fun b hb _=>heap_alloc_old w.drew _ b hb,fun b hb=>?_,rfl,rfl,rfl,by simp⟩;obtain ⟨_,_,_,ha,hb⟩:=Ob.has_arr'.1 hb;simp at ha;obtain ⟨rfl,_⟩:=ha;obtain rfl:=hb;exact ⟨.inr (Nat.le_refl _),by simpa using hGn⟩
   | false =>
     refine ⟨upd G w.heap.size (some (xs++news)),?_,?_,?_,fun b hb _=>heap_alloc_old w.drew _ b hb,fun b hb=>?_,rfl,rfl,rfl,by simp⟩
     ·intro b cs hb;by_cases e1:b=w.heap.size
      ·subst e1;rw [hGn] at hb;cases hb
      ·exact ⟨[],by rw [aJ _ _ _ e1,hb,List.append_nil]⟩
     ·intro b hb;by_cases e1:b=w.heap.size
      ·exact .inr (by omega)
      ·rw [aJ _ _ _ e1] at hb;exact absurd rfl hb
     ·intro b cs hb;by_cases e1:b=w.heap.size
      ·subst e1;rw [aE] at hb;cases hb;exact ⟨cur',e,_,heap_alloc_new w.drew _,rest,hcur⟩
      ·rw [aJ _ _ _ e1] at hb;exact hgok' b cs hb
     ·obtain ⟨_,_,_,ha,hb⟩:=Ob.has_arr'.1 hb;simp at ha;obtain ⟨rfl,_⟩:=ha;obtain rfl:=hb;exact ⟨.inr (Nat.le_refl _),by rw [aE];rfl⟩
 obtain ⟨G',hle,hd,hgok',hblk,hnew,hos,htape,hout,hsize⟩:=key;have nok:∀ b y,¬ (if md then Ob.dead else Ob.ro es).has w' y b:=fun b y hb=>by
  cases md
  ·exact Ob.has_ro hb
  ·exact Ob.has_dead hb
 have hh:∀ k1 y b,k1≠k->X k1=some y->(m k1).has w' y b->(m k1).has w y b:=fun k1 y b hk hy hb =>
  (Ob.has_congr (fun b2 B2=>hblk b2 (h.blk_lt hy B2) (fun B3=>hk (h.apart k1 k y x b2 hy hx B2 B3))) (h.ob k1 y hy) b).1 hb
 refine ⟨v',w',G',hrun,hle,jO hXid,hle |> h.gle.trans,?_,hgok',?_,?_,?_,?_,?_,?_,fun k y hk=>jO hXid k y (h.old k y hk)⟩
 ·intro b hb hnb;by_cases e1:G' b=G b
  ·rw [e1];exact h.gold b hb hnb
  ·rcases hd b e1 with h2 | h2
   ·rcases h.mine k x b hx h2 with h3 | h3
    ·exact absurd h3 hnb
    ·omega
   ·have:=h.keeps.size;omega
 ·refine ⟨hos.trans h.keeps.os,htape.trans h.keeps.tape,hout.trans h.keeps.output,Nat.le_trans h.keeps.size hsize,fun b hb hnb=>?_⟩;rw [hblk b (by have:=h.keeps.size;omega) (fun hb'=>?_)]
  ·exact h.keeps.block b hb hnb
  ·rcases h.mine k x b hx hb' with h3 | h3
   ·exact hnb h3
   ·omega
 ·intro k' y hy;by_cases e1:k'=id
  ·subst e1;rw [aE] at hy ⊢;cases hy;refine ⟨xs++news,i,hi,by rw [List.length_append];exact hown',(T.Rows.mono hle _ _ _ _ (Sub.refl _) (hr.append hxl hr2)),?_⟩;intro a n c' ha;exact (hnew a.block (by rw [ha];exact rfl)).2
  ·rw [aJ _ _ _ e1] at hy ⊢;by_cases e2:k'=k
   ·subst e2;rw [aE];rw [hx] at hy;cases hy;cases md with
    | true=>trivial
    | false=>exact T.Is.mono hle _ _ (hro rfl)
   ·rw [aJ _ _ _ e2];refine (h.ob k' y hy).mono hle (jO hXid) (fun b hb=>?_) (fun b hb=>hblk b (h.blk_lt hy hb) (fun hb'=>e2 (h.apart k' k y x b hy hx hb hb')));by_cases e3:G' b=G b
    ·exact e3
    ·rcases hd b e3 with h2 | h2
     ·exact absurd (h.apart k' k y x b hy hx hb h2) e2
     ·have:=h.blk_lt hy hb;omega
 ·intro k';by_cases e1:k'=id
  ·subst e1;rw [aE,aE];simp
  ·rw [aJ _ _ _ e1,aJ _ _ _ e1];by_cases e2:k'=k
   ·subst e2;rw [aE,hx];cases md<;>simp
   ·rw [aJ _ _ _ e2];exact h.free k'
 ·have f:∀ k1 y1 b,k1≠id->upd X id (some v') k1=some y1->(upd (upd m k (if md then .dead else .ro es)) id (.arr (es++fs) e md) k1).has w' y1 b->k1≠k/\X k1=some y1/\(m k1).has w y1 b:=by
   intro k1 y1 b e1 h2 h3;rw [aJ _ _ _ e1] at h2 h3;by_cases e2:k1=k
   ·subst e2;rw [aE] at h3;exact absurd h3 (nok b y1)
   ·rw [aJ _ _ _ e2] at h3;exact ⟨e2,h2,hh k1 y1 b e2 h2 h3⟩
  have sep:∀ k1 y1 b,k1≠id->upd X id (some v') k1=some y1->(upd (upd m k (if md then .dead else .ro es)) id (.arr (es++fs) e md) k1).has w' y1 b->Ob.has w' (.arr (es++fs) e md) v' b->False:=by
   intro k1 y1 b e1 h2 h3 h4;obtain ⟨e2,h5,h6⟩:=f k1 y1 b e1 h2 h3;rcases (hnew b h4).1 with h7 | h7
   ·exact e2 (h.apart k1 k y1 x b h5 hx h6 h7)
   ·have:=h.blk_lt h5 h6;omega
  intro k1 k2 y1 y2 b h2 h3 B1 B2;by_cases e1:k1=id<;>by_cases e2:k2=id
  ·rw [e1,e2]
  ·subst e1;rw [aE] at h2 B1;cases h2;exact (sep k2 y2 b e2 h3 B2 B1).elim
  ·subst e2;rw [aE] at h3 B2;cases h3;exact (sep k1 y1 b e1 h2 B1 B2).elim
  ·obtain ⟨_,h4,h5⟩:=f k1 y1 b e1 h2 B1;obtain ⟨_,h6,h7⟩:=f k2 y2 b e2 h3 B2;exact h.apart k1 k2 y1 y2 b h4 h6 h5 h7
 ·intro k1 y1 b h2 B1;by_cases e1:k1=id
  ·subst e1;rw [aE] at h2 B1;cases h2;rcases (hnew b B1).1 with h3 | h3
   ·exact h.mine k x b hx h3
   ·exact .inr (by have:=h.keeps.size;omega)
  ·rw [aJ _ _ _ e1] at h2 B1;by_cases e2:k1=k
   ·subst e2;rw [aE] at B1;exact (nok _ _ B1).elim
   ·rw [aJ _ _ _ e2] at B1;exact h.mine k1 y1 b h2 (hh k1 y1 b e2 h2 B1)
 ·intro k1 y1 h2;by_cases e1:k1=id
  ·subst e1;rw [aE] at h2;cases h2;exact hone
  ·rw [aJ _ _ _ e1] at h2;exact h.cell k1 y1 h2
end
end Go.Abs
end
