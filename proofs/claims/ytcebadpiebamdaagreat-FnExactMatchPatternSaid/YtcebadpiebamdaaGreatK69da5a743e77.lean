/- A part of the proof: what the functions that the law calls answer, as pure values. -/
import Derived.KernelRfl
import Derived.Test.YtcebadpiebamdaaGreatK075984cc7243
import Derived.Test.YtcebadpiebamdaaGreatK863b9396a6d1
import Derived.Test.YtcebadpiebamdaaGreatK0c09c3f6594f
set_option linter.unusedSimpArgs false
set_option linter.unusedVariables false
section
set_option linter.unusedVariables false
namespace Go.Abs
def Tr {α:Type} (F:Nat→Option α) (v:α):Prop:=∃ n,∀ m,n≤m→F m=some v
theorem Tr.val {α:Type} {v:α}:Tr (fun _=>some v) v:=⟨0,fun _ _=>rfl⟩
theorem Tr.of {α:Type} {F:Nat→Option α} {v:α} (h:∀ m,F m=some v):Tr F v:=⟨0,fun m _=>h m⟩
theorem Tr.bind {α β:Type} {f:Nat→Option α} {g:α→Nat→Option β} {v:α} {w:β} (h1:Tr f v) (h2:Tr (fun m=>g v m) w):Tr (fun m=>(f m).bind fun x=>g x m) w:=by
 obtain ⟨n1,h1⟩:=h1
 obtain ⟨n2,h2⟩:=h2
 refine ⟨n1+n2,fun m hm=>?_⟩
 show (f m).bind _=_
 rw [h1 m (by omega)]
 exact h2 m (by omega)
theorem Tr.step {α:Type} {F G:Nat→Option α} {v:α} (h:∀ m,F (m+1)=G m) (hg:Tr G v):Tr F v:=by
 obtain ⟨n,hg⟩:=hg
 refine ⟨n+1,fun m hm=>?_⟩
 obtain ⟨k,rfl⟩:∃ k,m=k+1:=⟨m-1,by omega⟩
 rw [h,hg k (by omega)]
theorem Tr.eq {α:Type} {F G:Nat→Option α} {v:α} (h:∀ m,F m=G m) (hg:Tr G v):Tr F v:=by
 obtain ⟨n,hg⟩:=hg
 exact ⟨n,fun m hm=>by rw [h,hg m hm]⟩
theorem Tr.tt {α:Type} {F G:Nat→Option α} {b:Bool} {v:α} (hb:b=true) (h:Tr F v):Tr (fun m=>bif b then F m else G m) v:=by subst hb;exact h
theorem Tr.ff {α:Type} {F G:Nat→Option α} {b:Bool} {v:α} (hb:b=false) (h:Tr G v):Tr (fun m=>bif b then F m else G m) v:=by subst hb;exact h
theorem Tr.chk {α:Type} {F:Nat→Option α} {b:Bool} {v:α} (hb:b=true) (h:Tr F v):Tr (fun m=>Abs.chk b (F m)) v:=by subst hb;exact h
theorem Tr.idx {α β:Type} {l:List α} {i:Int} {x:α} {g:α→Nat→Option β} {w:β} (hx:idx l i=some x) (h:Tr (fun m=>g x m) w):Tr (fun m=>(Abs.idx l i).bind fun y=>g y m) w:=by
 rw [hx];exact h
theorem Tr.get {α:Type} {F:Nat→Option α} {v:α} (h:Tr F v):∃ n,F n=some v:=by
 obtain ⟨n,h⟩:=h;exact ⟨n,h n (Nat.le_refl n)⟩
theorem zL {α:Type} {l:List α} {k:Nat} {x:α} (h:l[k]?=some x):idx l (k:Int)=some x:=by
 unfold idx
 simp [h]
theorem idx_int {α:Type} {l:List α} {i:Int} (h0:0≤i) (h1:i < l.length):∃ x,idx l i=some x∧x∈l:=by
 obtain ⟨k,rfl⟩:=Int.eq_ofNat_of_zero_le h0
 have hk:k < l.length:=by omega
 exact ⟨l[k],zL (List.getElem?_eq_getElem hk),List.getElem_mem hk⟩
theorem zaj {α:Type} (l:List α) (motive:Nat→List α→Prop) (nil:motive l.length [])
  (cons:∀ k x xs,k < l.length→l[k]?=some x→l.drop k=x::xs→motive (k+1) xs→motive k (x::xs)):∀ k,k≤l.length→motive k (l.drop k):=by
 have key:∀ n k,l.length-k=n→k≤l.length→motive k (l.drop k):=by
  intro n
  induction n with
  | zero =>
    intro k hk hle
    have:k=l.length:=by omega
    subst this
    rw [List.drop_length];exact nil
  | succ n ih =>
    intro k hk hle
    have hlt:k < l.length:=by omega
    have:=ih (k+1) (by omega) (by omega)
    rw [List.drop_eq_getElem_cons hlt]
    exact cons k _ _ hlt (List.getElem?_eq_getElem hlt) (List.drop_eq_getElem_cons hlt) this
 exact fun k hk=>key _ k rfl hk
theorem ltN {k n:Nat} (h:k < n):decide ((k:Int) < (n:Int))=true:=by simpa using h
theorem geN {k n:Nat} (h:¬ k < n):decide ((k:Int) < (n:Int))=false:=by simpa using h
theorem zad {n:Nat}:decide ((n:Int) < (n:Int))=false:=by simp
theorem zcj (k:Nat):(k:Int)+1=((k+1:Nat):Int):=by simp
theorem zaM {n:Int} (h:-9223372036854775808≤n∧n≤9223372036854775807):w64 n=n:=IntWalk.i64_in n (by omega)
def TQ {α:Type} (F:Nat→Option α) (Q:α→Prop):Prop:=∃ r,Tr F r∧Q r
theorem TQ.val {α:Type} {v:α} {Q:α→Prop} (h:Q v):TQ (fun _=>some v) Q:=⟨v,Tr.val,h⟩
theorem TQ.bind {α β:Type} {f:Nat→Option α} {g:α→Nat→Option β} {Q:α→Prop} {R:β→Prop} (h1:TQ f Q) (h2:∀ v,Q v→TQ (fun m=>g v m) R):TQ (fun m=>(f m).bind fun x=>g x m) R:=by
 obtain ⟨v,h1,hq⟩:=h1
 obtain ⟨w,h2,hr⟩:=h2 v hq
 exact ⟨w,h1.bind h2,hr⟩
theorem TQ.ev {α β:Type} {f:Nat→Option α} {g:α→Nat→Option β} {v:α} {R:β→Prop} (h1:Tr f v) (h2:TQ (fun m=>g v m) R):TQ (fun m=>(f m).bind fun x=>g x m) R:=by
 obtain ⟨w,h2,hr⟩:=h2
 exact ⟨w,h1.bind h2,hr⟩
theorem TQ.step {α:Type} {F G:Nat→Option α} {Q:α→Prop} (h:∀ m,F (m+1)=G m) (hg:TQ G Q):TQ F Q:=by
 obtain ⟨v,h1,hq⟩:=hg
 exact ⟨v,Tr.step h h1,hq⟩
theorem TQ.eq {α:Type} {F G:Nat→Option α} {Q:α→Prop} (h:∀ m,F m=G m) (hg:TQ G Q):TQ F Q:=by
 obtain ⟨v,h1,hq⟩:=hg
 exact ⟨v,Tr.eq h h1,hq⟩
theorem TQ.cond {α:Type} {F G:Nat→Option α} {b:Bool} {Q:α→Prop} (h1:b=true→TQ F Q) (h2:b=false→TQ G Q):TQ (fun m=>bif b then F m else G m) Q:=by
 cases b
 ·exact h2 rfl
 ·exact h1 rfl
theorem TQ.chk {α:Type} {F:Nat→Option α} {b:Bool} {Q:α→Prop} (hb:b=true) (h:TQ F Q):TQ (fun m=>Abs.chk b (F m)) Q:=by subst hb;exact h
theorem TQ.idx {α β:Type} {l:List α} {i:Int} {g:α→Nat→Option β} {R:β→Prop} (h0:0≤i) (h1:i < l.length) (h:∀ x,x∈l→TQ (fun m=>g x m) R):TQ (fun m=>(Abs.idx l i).bind fun y=>g y m) R:=by
 obtain ⟨x,hx,hm⟩:=idx_int h0 h1
 obtain ⟨w,hw,hr⟩:=h x hm
 exact ⟨w,Tr.idx hx hw,hr⟩
theorem TQ.mono {α:Type} {F:Nat→Option α} {Q R:α→Prop} (h:TQ F Q) (hq:∀ v,Q v→R v):TQ F R:=by
 obtain ⟨v,h1,h2⟩:=h;exact ⟨v,h1,hq v h2⟩
mutual
def Form.w:Form→Nat
 | .mk _ _ _ scopes kids=>1+scopes.length+Form.ws kids
def Form.ws:List Form→Nat
 | []=>0
 | f::fs=>1+f.w+Form.ws fs
end
mutual
def Core.w:Core→Nat
 | .mk _ _ _ _ ids data kids=>1+ids.length+data.w+Core.ws kids
def Core.ws:List Core→Nat
 | []=>0
 | f::fs=>1+f.w+Core.ws fs
end
theorem Form.ws_len:∀ (l:List Form),l.length≤Form.ws l
 | []=>by simp
 | f::fs=>by have:=Form.ws_len fs;rw [Form.ws,List.length_cons];omega
theorem Core.ws_len:∀ (l:List Core),l.length≤Core.ws l
 | []=>by simp
 | f::fs=>by have:=Core.ws_len fs;rw [Core.ws,List.length_cons];omega
theorem Form.ws_mem:∀ {l:List Form} {x:Form},x∈l→x.w < Form.ws l
 | f::fs,x,h=>by
   rw [Form.ws]
   rcases List.mem_cons.1 h with rfl | h
   ·omega
   ·have:=Form.ws_mem h;omega
theorem Core.ws_mem:∀ {l:List Core} {x:Core},x∈l→x.w < Core.ws l
 | f::fs,x,h=>by
   rw [Core.ws]
   rcases List.mem_cons.1 h with rfl | h
   ·omega
   ·have:=Core.ws_mem h;omega
theorem Form.ws_append (a b:List Form):Form.ws (a++b)=Form.ws a+Form.ws b:=by
 induction a with
 | nil=>simp [Form.ws]
 | cons x a ih=>rw [List.cons_append,Form.ws,Form.ws,ih];omega
theorem Core.ws_append (a b:List Core):Core.ws (a++b)=Core.ws a+Core.ws b:=by
 induction a with
 | nil=>simp [Core.ws]
 | cons x a ih=>rw [List.cons_append,Core.ws,Core.ws,ih];omega
theorem Form.w_kids (f:Form):Form.ws f.kids+f.scopes.length+1=f.w:=by obtain ⟨a,b,c,d,e⟩:=f;simp only [Form.w,Form.kids,Form.scopes];omega
theorem Core.w_kids (f:Core):Core.ws f.kids+f.ids.length+f.data.w+1=f.w:=by obtain ⟨a,b,c,d,e,g,h⟩:=f;simp only [Core.w,Core.kids,Core.ids,Core.data];omega
structure OkRd (r:l15Rd) (K:Int):Prop where
 len:r.b.length≤2000
 byte:∀ x∈r.b,0≤x∧x < 256
 lo:0≤r.p
 hi:r.p≤K
theorem OkRd.mono {r:l15Rd} {K K':Int} (h:OkRd r K) (hk:K≤K'):OkRd r K':=⟨h.len,h.byte,h.lo,by have:=h.hi;omega⟩
end Go.Abs
end
section
section
set_option linter.unusedVariables false
set_option linter.unusedSimpArgs false
namespace Go.Abs
noncomputable def same {α:Type} (a b:α):Bool:=@decide (a=b) (Classical.propDecidable _)
theorem zfU {α:Type} {a b:α}:same a b=true↔a=b:=by unfold same;exact @decide_eq_true_iff _ (Classical.propDecidable _)
theorem zfn {α:Type} (a:α):same a a=true:=zfU.2 rfl
theorem same_ne {α:Type} {a b:α} (h:a≠b):same a b=false:=by
 rw [← Bool.not_eq_true,zfU];exact h
theorem same_dec {α:Type} (a b:α) [inst:Decidable (a=b)]:same a b=decide (a=b):=by
 rw [Bool.eq_iff_iff,zfU,decide_eq_true_iff]
theorem same_cons {α:Type} (a b:α) (xs ys:List α):same (a::xs) (b::ys)=(same a b&&same xs ys):=by
 rw [Bool.eq_iff_iff,Bool.and_eq_true,zfU,zfU,zfU,List.cons.injEq]
theorem drop_get {α:Type} {l:List α} {k:Nat} {x:α} (h:l[k]?=some x):l.drop k=x::l.drop (k+1):=by
 obtain ⟨hk,rfl⟩:=List.getElem?_eq_some_iff.1 h
 exact List.drop_eq_getElem_cons hk
theorem loop_eq {α:Type} {xs ys:List α} (hl:xs.length=ys.length) {L:Nat→Int→Option Bool} {E:Nat→α→α→Option Bool}
  (h0:∀ m k,L (m+1) k=bif decide (k < (xs.length:Int)) then (idx xs k).bind fun a=>(idx ys k).bind fun b=>(E m a b).bind fun v=>bif !v then some false else L m (k+1) else some true)
  (hE:∀ a∈xs,∀ b∈ys,Tr (fun m=>E m a b) (same a b)):Tr (fun m=>L m 0) (same xs ys):=by
 have key:=zaj xs (fun k zs=>Tr (fun m=>L m (k:Int)) (same zs (ys.drop k))) ?_ ?_ 0 (Nat.zero_le _)
 ·simpa using key
 ·rw [hl,List.drop_length,zfn]
  exact Tr.step (fun m=>by rw [h0,hl,zad,cond_false]) Tr.val
 ·intro k x zs hk hx hd ih
  have hk':k < ys.length:=by omega
  have hy:ys[k]?=some ys[k]:=List.getElem?_eq_getElem hk'
  rw [drop_get hy,same_cons]
  refine Tr.step (fun m=>by rw [h0,ltN hk,cond_true,zL hx,Option.bind_some,zL hy,Option.bind_some,zcj]) ?_
  refine Tr.bind (hE x (List.mem_of_getElem? hx) ys[k] (List.getElem_mem hk')) ?_
  cases h:same x ys[k] with
  | false=>exact Tr.tt rfl Tr.val
  | true=>exact Tr.ff rfl ih
theorem loop_eqI {α:Type} [DecidableEq α] {xs ys:List α} (hl:xs.length=ys.length) {L:Nat→Int→Option Bool}
  (h0:∀ m k,L (m+1) k=bif decide (k < (xs.length:Int)) then (idx xs k).bind fun a=>(idx ys k).bind fun b=>bif decide (a≠b) then some false else L m (k+1) else some true):Tr (fun m=>L m 0) (same xs ys) :=
 loop_eq (E:=fun _ a b=>some (decide (a=b))) hl (fun m k=>by
  rw [h0];congr 1;congr 1;funext a;congr 1;funext b;rw [Option.bind_some];congr 1;simp) (fun a _ b _=>Tr.of (fun _=>by rw [same_dec]))
def alls {α:Type} (D:α→Bool):List α→Bool
 | []=>true
 | x::xs=>D x&&alls D xs
theorem zfG {α:Type} {D:α→Bool}:∀ {l:List α},alls D l=true↔∀ x∈l,D x=true
 | []=>by simp [alls]
 | x::xs=>by rw [alls,Bool.and_eq_true,zfG];simp
theorem loop_all {α:Type} {xs:List α} {c:Bool} {D:α→Bool} {L:Nat→Int→Option Bool} {E:Nat→α→Option Bool}
  (h0:∀ m k,L (m+1) k=bif decide (k < (xs.length:Int)) then (idx xs k).bind fun a=>(E m a).bind fun v=>bif !v then some false else L m (k+1) else some c)
  (hE:∀ a∈xs,Tr (fun m=>E m a) (D a)):Tr (fun m=>L m 0) (alls D xs&&c):=by
 have key:=zaj xs (fun k zs=>Tr (fun m=>L m (k:Int)) (alls D zs&&c)) ?_ ?_ 0 (Nat.zero_le _)
 ·simpa using key
 ·exact Tr.step (fun m=>by rw [h0,zad,cond_false]) (by simpa [alls] using Tr.val)
 ·intro k x zs hk hx hd ih
  refine Tr.step (fun m=>by rw [h0,ltN hk,cond_true,zL hx,Option.bind_some,zcj]) ?_
  refine Tr.bind (hE x (List.mem_of_getElem? hx)) ?_
  rw [alls]
  cases h:D x with
  | false=>exact Tr.tt rfl Tr.val
  | true=>exact Tr.ff rfl (by simpa using ih)
def fnd {α:Type} (D:α→Bool):List α→Nat→Int
 | [],_=>-1
 | x::xs,k=>bif D x then (k:Int) else fnd D xs (k+1)
theorem fnd_ge {α:Type} {D:α→Bool}:∀ {l:List α} {k:Nat},(0≤fnd D l k)↔∃ x∈l,D x=true
 | [],k=>by simp [fnd]
 | x::xs,k=>by
   rw [fnd]
   cases h:D x with
   | true=>simp [h]
   | false=>rw [cond_false,fnd_ge];simp [h]
theorem zgw {α:Type} {xs:List α} {D:α→Bool} {L:Nat→Int→Option Int} {E:Nat→α→Option Bool}
  (h0:∀ m k,L (m+1) k=bif decide (k < (xs.length:Int)) then (idx xs k).bind fun a=>(E m a).bind fun v=>bif v then some k else L m (k+1) else some (-1))
  (hE:∀ a∈xs,Tr (fun m=>E m a) (D a)):Tr (fun m=>L m 0) (fnd D xs 0):=by
 have key:=zaj xs (fun k zs=>Tr (fun m=>L m (k:Int)) (fnd D zs k)) ?_ ?_ 0 (Nat.zero_le _)
 ·simpa using key
 ·exact Tr.step (fun m=>by rw [h0,zad,cond_false];rfl) Tr.val
 ·intro k x zs hk hx hd ih
  refine Tr.step (fun m=>by rw [h0,ltN hk,cond_true,zL hx,Option.bind_some,zcj]) ?_
  refine Tr.bind (hE x (List.mem_of_getElem? hx)) ?_
  rw [fnd]
  cases h:D x with
  | false=>exact Tr.ff rfl ih
  | true=>exact Tr.tt rfl Tr.val
theorem loop_copy {α β:Type} {xs:List α} {z:β} {f:α→β} {L:Nat→Int→List β→Option (List β)} {E:Nat→α→Option β}
  (h0:∀ m k acc,L (m+1) k acc=bif decide (k < (xs.length:Int)) then (idx xs k).bind fun a=>(E m a).bind fun v=>(idx acc k).bind fun _=>L m (k+1) (acc.set k.toNat v) else some acc)
  (hE:∀ a∈xs,Tr (fun m=>E m a) (f a)):Tr (fun m=>L m 0 (List.replicate (xs.length:Int).toNat z)) (xs.map f):=by
 have key:=zaj xs (fun k zs=>Tr (fun m=>L m (k:Int) ((xs.take k).map f++List.replicate zs.length z)) (xs.map f)) ?_ ?_ 0 (Nat.zero_le _)
 ·simpa using key
 ·exact Tr.step (fun m=>by rw [h0,zad,cond_false];simp) Tr.val
 ·intro k x zs hk hx hd ih
  have hlen:((xs.take k).map f++List.replicate (x::zs).length z)[k]?=some z:=by
   rw [List.getElem?_append_right (by simp;omega)]
   simp [Nat.min_eq_left (Nat.le_of_lt hk)]
  refine Tr.step (fun m=>by rw [h0,ltN hk,cond_true,zL hx,Option.bind_some,zL hlen,zcj]) ?_
  refine Tr.bind (hE x (List.mem_of_getElem? hx)) ?_
  refine Tr.eq (fun m=>by rw [Option.bind_some]) ?_
  have e:((xs.take k).map f++List.replicate (x::zs).length z).set (k:Int).toNat (f x)=(xs.take (k+1)).map f++List.replicate zs.length z:=by
   have h1:(xs.take (k+1))=xs.take k++[x]:=by
    rw [List.take_add_one,hx];rfl
   have hlk:((xs.take k).map f).length=k:=by simp;omega
   rw [h1,Int.toNat_natCast,List.set_append_right k (f x) (by omega),hlk,Nat.sub_self]
   simp [List.replicate_succ]
  rw [e];exact ih
end Go.Abs
end
section
set_option linter.unusedVariables false
set_option linter.unusedSimpArgs false
namespace Go.Abs
mutual
def Hit.w:Hit→Nat
 | .mk name _ one many=>1+name.w+one.w+Hit.ws many
def Hit.ws:List Hit→Nat
 | []=>0
 | f::fs=>1+f.w+Hit.ws fs
end
theorem Hit.ws_len:∀ (l:List Hit),l.length≤Hit.ws l
 | []=>by simp
 | f::fs=>by have:=Hit.ws_len fs;rw [Hit.ws,List.length_cons];omega
theorem Hit.ws_mem:∀ {l:List Hit} {x:Hit},x∈l→x.w < Hit.ws l
 | f::fs,x,h=>by
   rw [Hit.ws]
   rcases List.mem_cons.1 h with rfl | h
   ·omega
   ·have:=Hit.ws_mem h;omega
theorem Hit.w_parts (f:Hit):Hit.ws f.many+f.name.w+f.one.w+1=f.w:=by obtain ⟨a,b,c,d⟩:=f;simp only [Hit.w,Hit.many,Hit.name,Hit.one];omega
theorem Form.w_pos (f:Form):1≤f.w:=by have:=f.w_kids;omega
theorem zgE {α:Type} {a b:List α} (h:a.length≠b.length):same a b=false:=same_ne (fun e=>h (by rw [e]))
theorem form_same (a b:Form):same a b=(decide (a.kind=b.kind)&&(decide (a.name=b.name)&&(decide (a.n=b.n)&&(same a.scopes b.scopes&&same a.kids b.kids)))):=by
 obtain ⟨k,nm,n,sc,ki⟩:=a
 obtain ⟨k',nm',n',sc',ki'⟩:=b
 show _=(decide (k=k')&&(decide (nm=nm')&&(decide (n=n')&&(same sc sc'&&same ki ki'))))
 rw [Bool.eq_iff_iff]
 simp only [Bool.and_eq_true,zfU,decide_eq_true_eq,Form.mk.injEq]
theorem hit_same (a b:Hit):same a b=(same a.name b.name&&(decide (a.depth=b.depth)&&(same a.one b.one&&same a.many b.many))):=by
 obtain ⟨k,nm,n,sc⟩:=a
 obtain ⟨k',nm',n',sc'⟩:=b
 show _=(same k k'&&(decide (nm=nm')&&(same n n'&&same sc sc')))
 rw [Bool.eq_iff_iff]
 simp only [Bool.and_eq_true,zfU,decide_eq_true_eq,Hit.mk.injEq]
theorem lenB {a b:Nat} (h:a≠b):decide ((a:Int)≠(b:Int))=true:=decide_eq_true (by omega)
theorem lenE {a b:Nat} (h:a=b):decide ((a:Int)≠(b:Int))=false:=decide_eq_false (by omega)
theorem slEqual_tr (a b:List Int):Tr (fun m=>zcE m a b) (same a b):=by
 refine Tr.eq (fun m=>by unfold zcE;rfl) ?_
 by_cases h:a.length=b.length
 ·exact Tr.ff (lenE h) (loop_eqI h (L:=fun m k=>zbt m a b k) (fun m k=>by rw [zbt]))
 ·rw [zgE h];exact Tr.tt (lenB h) Tr.val
theorem l1Ints_tr (a b:List Int):Tr (fun m=>zeE m a b) (same a b):=by
 refine Tr.eq (fun m=>by unfold zeE;rfl) ?_
 by_cases h:a.length=b.length
 ·exact Tr.ff (lenE h) (loop_eqI h (L:=fun m k=>zcK m a b k) (fun m k=>by rw [zcK]))
 ·rw [zgE h];exact Tr.tt (lenB h) Tr.val
theorem eqIntS_tr (a b:List Int):Tr (fun m=>zeI m a b) (same a b):=by
 refine Tr.eq (fun m=>by unfold zeI;rfl) ?_
 by_cases h:a.length=b.length
 ·exact Tr.ff (lenE h) (loop_eqI h (L:=fun m k=>zcM m a b k) (fun m k=>by rw [zcM]))
 ·rw [zgE h];exact Tr.tt (lenB h) Tr.val
theorem implFormSame_n:∀ (n:Nat) (a b:Form),a.w≤n→Tr (fun m=>zbV m a b) (same a b):=by
 intro n
 induction n with
 | zero=>intro a b h;have:=a.w_pos;omega
 | succ n ih =>
   intro a b h
   have hw:=a.w_kids
   rw [form_same]
   refine Tr.step (fun m=>by rw [zbV]) ?_
   cases decide (a.kind=b.kind) with
   | false=>exact Tr.ff rfl Tr.val
   | true =>
   refine Tr.tt rfl ?_
   cases decide (a.name=b.name) with
   | false=>exact Tr.ff rfl Tr.val
   | true =>
   refine Tr.tt rfl ?_
   cases decide (a.n=b.n) with
   | false=>exact Tr.ff rfl Tr.val
   | true =>
   refine Tr.tt rfl (Tr.bind (slEqual_tr _ _) ?_)
   cases same a.scopes b.scopes with
   | false=>exact Tr.ff rfl Tr.val
   | true =>
   refine Tr.tt rfl (Tr.bind (v:=same a.kids b.kids) (Tr.step (fun m=>by rw [zaH]) ?_) Tr.val)
   by_cases hl:a.kids.length=b.kids.length
   ·exact Tr.ff (lenE hl) (loop_eq hl (L:=fun m k=>zW m a.kids b.kids k) (E:=fun m x y=>zbV m x y) (fun m k=>by rw [zW]) (fun x hx y _=>ih x y (by have:=Form.ws_mem hx;omega)))
   ·rw [zgE hl];exact Tr.tt (lenB hl) Tr.val
theorem implFormSame_tr (a b:Form):Tr (fun m=>zbV m a b) (same a b):=implFormSame_n _ a b (Nat.le_refl _)
theorem specFormSame_n:∀ (n:Nat) (a b:Form),a.w≤n→Tr (fun m=>zbR m a b) (same a b):=by
 intro n
 induction n with
 | zero=>intro a b h;have:=a.w_pos;omega
 | succ n ih =>
   intro a b h
   have hw:=a.w_kids
   rw [form_same]
   refine Tr.step (fun m=>by rw [zbR]) ?_
   by_cases h1:a.kind=b.kind
   case neg=>rw [decide_eq_false h1];exact Tr.tt (by simpa using h1) Tr.val
   rw [decide_eq_true h1]
   refine Tr.ff (by simpa using h1) ?_
   by_cases h2:a.name=b.name
   case neg=>rw [decide_eq_false h2];exact Tr.tt (by simpa using h2) Tr.val
   rw [decide_eq_true h2]
   refine Tr.ff (by simpa using h2) ?_
   by_cases h3:a.n=b.n
   case neg=>rw [decide_eq_false h3];exact Tr.tt (by simpa using h3) Tr.val
   rw [decide_eq_true h3]
   refine Tr.ff (by simpa using h3) (Tr.bind (l1Ints_tr _ _) ?_)
   cases same a.scopes b.scopes with
   | false=>exact Tr.tt rfl Tr.val
   | true =>
   refine Tr.ff rfl ?_
   by_cases hl:a.kids.length=b.kids.length
   ·exact Tr.ff (lenE hl) (loop_eq hl (L:=fun m k=>zb3 m a b k) (E:=fun m x y=>zbR m x y) (fun m k=>by rw [zb3]) (fun x hx y _=>ih x y (by have:=Form.ws_mem hx;omega)))
   ·rw [zgE hl];exact Tr.tt (lenB hl) Tr.val
theorem specFormSame_tr (a b:Form):Tr (fun m=>zbR m a b) (same a b):=specFormSame_n _ a b (Nat.le_refl _)
theorem eqForm_n:∀ (n:Nat) (a b:Form),a.w≤n→Tr (fun m=>zbm m a b) (same a b):=by
 intro n
 induction n with
 | zero=>intro a b h;have:=a.w_pos;omega
 | succ n ih =>
   intro a b h
   have hw:=a.w_kids
   rw [form_same]
   refine Tr.step (fun m=>by rw [zbm]) ?_
   by_cases h1:a.kind=b.kind
   case neg=>rw [decide_eq_false h1];exact Tr.tt (by simpa using h1) Tr.val
   rw [decide_eq_true h1]
   refine Tr.ff (by simpa using h1) ?_
   by_cases h2:a.name=b.name
   case neg=>rw [decide_eq_false h2];exact Tr.tt (by simpa using h2) Tr.val
   rw [decide_eq_true h2]
   refine Tr.ff (by simpa using h2) ?_
   by_cases h3:a.n=b.n
   case neg=>rw [decide_eq_false h3];exact Tr.tt (by simpa using h3) Tr.val
   rw [decide_eq_true h3]
   refine Tr.ff (by simpa using h3) (Tr.bind (eqIntS_tr _ _) ?_)
   cases same a.scopes b.scopes with
   | false=>exact Tr.tt rfl Tr.val
   | true =>
   refine Tr.ff rfl (Tr.bind (v:=same a.kids b.kids) (Tr.step (fun m=>by rw [zct]) ?_) ?_)
   ·by_cases hl:a.kids.length=b.kids.length
    ·exact Tr.ff (lenE hl) (loop_eq hl (L:=fun m k=>zbF m a.kids b.kids k) (E:=fun m x y=>zbm m x y) (fun m k=>by rw [zbF]) (fun x hx y _=>ih x y (by have:=Form.ws_mem hx;omega)))
    ·rw [zgE hl];exact Tr.tt (lenB hl) Tr.val
   ·cases same a.kids b.kids with
    | false=>exact Tr.tt rfl Tr.val
    | true=>exact Tr.ff rfl Tr.val
theorem eqForm_tr (a b:Form):Tr (fun m=>zbm m a b) (same a b):=eqForm_n _ a b (Nat.le_refl _)
theorem eqHitS_of {l l':List Hit} (ih:∀ x∈l,∀ y,Tr (fun m=>zdS m x y) (same x y)):Tr (fun m=>zb6 m l l') (same l l'):=by
 refine Tr.step (fun m=>by rw [zb6]) ?_
 by_cases hl:l.length=l'.length
 ·exact Tr.ff (lenE hl) (loop_eq hl (L:=fun m k=>zcN m l l' k) (E:=fun m x y=>zdS m x y) (fun m k=>by rw [zcN]) (fun x hx y _=>ih x hx y))
 ·rw [zgE hl];exact Tr.tt (lenB hl) Tr.val
theorem eqHit_n:∀ (n:Nat) (a b:Hit),a.w≤n→Tr (fun m=>zdS m a b) (same a b):=by
 intro n
 induction n with
 | zero=>intro a b h;have:=a.w_parts;omega
 | succ n ih =>
   intro a b h
   have hw:=a.w_parts
   rw [hit_same]
   refine Tr.step (fun m=>by rw [zdS]) (Tr.bind (eqForm_tr _ _) ?_)
   cases same a.name b.name with
   | false=>exact Tr.tt rfl Tr.val
   | true =>
   refine Tr.ff rfl ?_
   by_cases h2:a.depth=b.depth
   case neg=>rw [decide_eq_false h2];exact Tr.tt (by simpa using h2) Tr.val
   rw [decide_eq_true h2]
   refine Tr.ff (by simpa using h2) (Tr.bind (eqForm_tr _ _) ?_)
   cases same a.one b.one with
   | false=>exact Tr.tt rfl Tr.val
   | true =>
   refine Tr.ff rfl (Tr.bind (eqHitS_of (fun x hx y=>ih x y (by have:=Hit.ws_mem hx;omega))) ?_)
   cases same a.many b.many with
   | false=>exact Tr.tt rfl Tr.val
   | true=>exact Tr.ff rfl Tr.val
theorem eqHitS_tr (a b:List Hit):Tr (fun m=>zb6 m a b) (same a b):=eqHitS_of (fun x _ y=>eqHit_n _ x y (Nat.le_refl _))
theorem toIntS_tr (l:List Int) (h:l.length≤2 ^ 36):Tr (fun m=>zdg m l) l:=by
 refine Tr.eq (fun m=>by unfold zdg;rfl) (Tr.chk (by simp;omega) ?_)
 have:=loop_copy (xs:=l) (z:=(0:Int)) (f:=fun x=>x) (L:=fun m k acc=>zbA m l k acc) (E:=fun _ a=>some a) (fun m k acc=>by rw [zbA];rfl) (fun a _=>Tr.val)
 simpa using this
theorem toForm_n:∀ (n:Nat) (f:Form),f.w≤n→f.w≤2 ^ 36→Tr (fun m=>zaf m f) f:=by
 intro n
 induction n with
 | zero=>intro a h;have:=a.w_pos;omega
 | succ n ih =>
   intro f h hb
   have hw:=f.w_kids
   have hl:=Form.ws_len f.kids
   refine Tr.step (fun m=>by rw [zaf]) (Tr.bind (toIntS_tr _ (by omega)) (Tr.bind (v:=f.kids) ?_ ?_))
   ·refine Tr.step (fun m=>by rw [zaS]) (Tr.chk (by simp;omega) ?_)
    have:=loop_copy (xs:=f.kids) (z:=Form.mk 0 (⟨#[]⟩:ByteArray) 0 ([]:List Int) ([]:List Form)) (f:=fun x=>x) (L:=fun m k acc=>zaw m f.kids k acc) (E:=fun m a=>zaf m a) (fun m k acc=>by rw [zaw]) (fun a ha=>ih a (by have:=Form.ws_mem ha;omega) (by have:=Form.ws_mem ha;omega))
    simpa using this
   ·obtain ⟨a,b,c,d,e⟩:=f;exact Tr.val
theorem toForm_tr (f:Form) (hb:f.w≤2 ^ 36):Tr (fun m=>zaf m f) f:=toForm_n _ f (Nat.le_refl _) hb
end Go.Abs
end
section
set_option linter.unusedVariables false
set_option linter.unusedSimpArgs false
namespace Go.Abs
mutual
def Form.fit:Form→Prop
 | .mk _ name _ scopes kids=>name.size≤9223372036854775807∧scopes.length≤9223372036854775807∧kids.length≤9223372036854775807∧Form.fits kids
def Form.fits:List Form→Prop
 | []=>True
 | f::fs=>f.fit∧Form.fits fs
end
mutual
def Hit.fit:Hit→Prop
 | .mk name _ one many=>name.fit∧one.fit∧many.length≤9223372036854775807∧Hit.fits many
def Hit.fits:List Hit→Prop
 | []=>True
 | f::fs=>f.fit∧Hit.fits fs
end
theorem Form.fits_mem:∀ {l:List Form} {x:Form},Form.fits l→x∈l→x.fit
 | f::fs,x,h,hx=>by
   rw [Form.fits] at h
   rcases List.mem_cons.1 hx with rfl | hx
   ·exact h.1
   ·exact Form.fits_mem h.2 hx
theorem Hit.fits_mem:∀ {l:List Hit} {x:Hit},Hit.fits l→x∈l→x.fit
 | f::fs,x,h,hx=>by
   rw [Hit.fits] at h
   rcases List.mem_cons.1 hx with rfl | hx
   ·exact h.1
   ·exact Hit.fits_mem h.2 hx
theorem Form.fit.parts {f:Form} (h:f.fit):f.name.size≤9223372036854775807∧f.scopes.length≤9223372036854775807∧f.kids.length≤9223372036854775807∧Form.fits f.kids:=by
 obtain ⟨a,b,c,d,e⟩:=f;rw [Form.fit] at h;exact h
theorem Hit.fit.parts {f:Hit} (h:f.fit):f.name.fit∧f.one.fit∧f.many.length≤9223372036854775807∧Hit.fits f.many:=by
 obtain ⟨a,b,c,d⟩:=f;rw [Hit.fit] at h;exact h
mutual
def Form.wt:Form→Nat
 | .mk _ name _ scopes kids=>name.size+scopes.length+Form.wts kids
def Form.wts:List Form→Nat
 | []=>0
 | f::fs=>1+f.wt+Form.wts fs
end
mutual
def Hit.wt:Hit→Nat
 | .mk name _ one many=>name.wt+one.wt+Hit.wts many
def Hit.wts:List Hit→Nat
 | []=>0
 | f::fs=>1+f.wt+Hit.wts fs
end
theorem Form.wt_parts (f:Form):f.wt=f.name.size+f.scopes.length+Form.wts f.kids:=by obtain ⟨a,b,c,d,e⟩:=f;rw [Form.wt];rfl
theorem Hit.wt_parts (f:Hit):f.wt=f.name.wt+f.one.wt+Hit.wts f.many:=by obtain ⟨a,b,c,d⟩:=f;rw [Hit.wt];rfl
mutual
theorem Form.w_wt:∀ f:Form,f.w≤1+2*f.wt
 | .mk a b c d e=>by
   have:=Form.ws_wts e
   rw [Form.w,Form.wt];omega
theorem Form.ws_wts:∀ l:List Form,Form.ws l≤2*Form.wts l
 | []=>by simp [Form.ws]
 | f::fs=>by
   have h1:=Form.w_wt f
   have h2:=Form.ws_wts fs
   rw [Form.ws,Form.wts];omega
end
mutual
theorem Hit.w_wt:∀ f:Hit,f.w≤3+4*f.wt
 | .mk a b c d=>by
   have:=Hit.ws_wts d
   have h1:=Form.w_wt a
   have h2:=Form.w_wt c
   rw [Hit.w,Hit.wt];omega
theorem Hit.ws_wts:∀ l:List Hit,Hit.ws l≤4*Hit.wts l
 | []=>by simp [Hit.ws]
 | f::fs=>by
   have h1:=Hit.w_wt f
   have h2:=Hit.ws_wts fs
   rw [Hit.ws,Hit.wts];omega
end
theorem geZ {a:Int} (h:0≤a):decide (a < 0)=false:=decide_eq_false (by omega)
def Left (v:Int) (n:Nat) (r:Int):Prop:=r=-1∨(0≤r∧r=v-n)
theorem szIntS_tq (l:List Int) (v:Int) (hl:l.length≤9223372036854775807) (h0:0≤v) (h1:v≤2 ^ 40):TQ (fun m=>zeG m l v) (Left v l.length):=by
 refine TQ.eq (fun m=>by unfold zeG;rw [zaM (by omega)]) ?_
 exact TQ.cond (fun _=>TQ.val (.inl rfl)) (fun h=>TQ.val (.inr ⟨by simpa using h,rfl⟩))
theorem szForm_n:∀ (n:Nat) (f:Form) (v:Int),f.w≤n→f.fit→0≤v→v≤2 ^ 40→TQ (fun m=>zcT m f v) (Left v f.wt):=by
 intro n
 induction n with
 | zero=>intro a v h;have:=a.w_pos;omega
 | succ n ih =>
   intro f v h hf h0 h1
   obtain ⟨f1,f2,f3,f4⟩:=hf.parts
   have hw:=f.w_kids
   have hwt:=f.wt_parts
   refine TQ.step (fun m=>by rw [zcT,zaM (by omega)]) ?_
   refine TQ.cond (fun _=>TQ.val (.inl rfl)) (fun h=>?_)
   replace h:0≤v-(f.name.size:Int):=by simpa using h
   refine TQ.bind (szIntS_tq _ _ f2 h (by omega)) (fun v2 h2=>?_)
   rcases h2 with rfl | ⟨h2,rfl⟩
   ·exact TQ.cond (fun _=>TQ.val (.inl rfl)) (fun h=>absurd h (by decide))
   refine TQ.cond (fun h=>absurd h (by rw [geZ h2];decide)) (fun _=>?_)
   refine TQ.bind (Q:=Left (v-f.name.size-f.scopes.length) (Form.wts f.kids)) ?_ (fun v4 h4=>?_)
   ·refine TQ.step (fun m=>by rw [zcY,zaM (by omega)]) ?_
    refine TQ.cond (fun _=>TQ.val (.inl rfl)) (fun h=>?_)
    replace h:0≤v-(f.name.size:Int)-f.scopes.length-f.kids.length:=by simpa using h
    have key:=zaj f.kids (fun k zs=>∀ g:Int,0≤g→g≤2 ^ 40→TQ (fun m=>zaO m f.kids g (k:Int)) (fun r=>r=-1∨(0≤r∧r=g-Form.wts zs+zs.length))) ?_ ?_ 0 (Nat.zero_le _) _ h (by omega)
    ·refine TQ.mono (by simpa using key) (fun r hr=>?_)
     rcases hr with hr | ⟨hr,he⟩
     ·exact .inl hr
     ·exact .inr ⟨hr,by rw [he];omega⟩
    ·intro g hg _
     exact TQ.step (fun m=>by rw [zaO,zad,cond_false]) (TQ.val (.inr ⟨hg,by simp [Form.wts]⟩))
    ·intro k x zs hk hx hd ihk g hg hg1
     refine TQ.step (fun m=>by rw [zaO,ltN hk,cond_true,zL hx,Option.bind_some,zcj]) ?_
     have hm:=List.mem_of_getElem? hx
     refine TQ.bind (ih x g (by have:=Form.ws_mem hm;omega) (Form.fits_mem f4 hm) hg hg1) (fun r hr=>?_)
     rcases hr with rfl | ⟨hr,rfl⟩
     ·exact TQ.cond (fun _=>TQ.val (.inl rfl)) (fun h=>absurd h (by decide))
     refine TQ.cond (fun h=>absurd h (by rw [geZ hr];decide)) (fun _=>?_)
     refine TQ.mono (ihk _ hr (by omega)) (fun r hr=>?_)
     rcases hr with hr | ⟨hr,he⟩
     ·exact .inl hr
     ·exact .inr ⟨hr,by rw [he,Form.wts,List.length_cons];omega⟩
   ·rcases h4 with rfl | ⟨h4,rfl⟩
    ·exact TQ.cond (fun _=>TQ.val (.inl rfl)) (fun h=>absurd h (by decide))
    refine TQ.cond (fun h=>absurd h (by rw [geZ h4];decide)) (fun _=>TQ.val (.inr ⟨h4,by omega⟩))
theorem szForm_tq (f:Form) (v:Int) (hf:f.fit) (h0:0≤v) (h1:v≤2 ^ 40):TQ (fun m=>zcT m f v) (Left v f.wt):=szForm_n _ f v (Nat.le_refl _) hf h0 h1
end Go.Abs
end
section
set_option linter.unusedVariables false
set_option linter.unusedSimpArgs false
namespace Go.Abs
def letterB (c:Int) (first:Bool):Bool:=(decide (97≤c)&&decide (c≤122))||(decide (c=42)||(decide (c=63)||(decide (c=61)||(decide (c=43)||(decide (c=60)||(!first&&((decide (48≤c)&&decide (c≤57))||decide (c=45))))))))
theorem l1Letter_tr (c:Int) (first:Bool):Tr (fun m=>zeq m c first) (letterB c first):=by
 refine Tr.of (fun m=>?_)
 unfold zeq letterB
 cases decide (97≤c)<;>cases decide (c≤122)<;>cases decide (c=42)<;>cases decide (c=63)<;>cases decide (c=61)<;>cases decide (c=43)<;>cases decide (c=60)<;>cases first<;>cases decide (48≤c)<;>cases decide (c≤57)<;>rfl
def nmF:Nat→List UInt8→Bool
 | _,[]=>true
 | k,x::xs=>letterB (x.toNat:Int) (decide ((k:Int)=0))&&nmF (k+1) xs
def nmSz (s:ByteArray):Bool:=decide (1≤(s.size:Int))&&decide ((s.size:Int)≤12)
def nmOk (s:ByteArray):Bool:=decide (s=(⟨#[46,46,46]⟩:ByteArray))||(decide (s=(⟨#[95]⟩:ByteArray))||(nmF 0 s.data.toList&&nmSz s))
theorem sz_list (s:ByteArray):s.size=s.data.toList.length:=by rw [ByteArray.size];simp
theorem bidx_nat {s:ByteArray} {k:Nat} {x:UInt8} (h:s.data.toList[k]?=some x):bidx s (k:Int)=some (x.toNat:Int):=by
 have hk:k < s.size:=by rw [sz_list];exact (List.getElem?_eq_some_iff.1 h).1
 unfold bidx
 rw [show (decide ((0:Int)≤k)&&decide ((k:Int) < s.size))=true by simp;omega,cond_true]
 rw [Int.toNat_natCast,byteAt,List.getD_eq_getElem?_getD,h];rfl
theorem bif_and (a b:Bool):(bif a then some b else some false)=some (a&&b):=by cases a<;>rfl
theorem specNm_tr (s:ByteArray):Tr (fun m=>zc9 m s) (nmOk s):=by
 refine Tr.eq (fun m=>by unfold zc9;rfl) ?_
 unfold nmOk
 cases decide (s=(⟨#[46,46,46]⟩:ByteArray)) with
 | true=>exact Tr.tt rfl Tr.val
 | false =>
 refine Tr.ff rfl ?_
 cases decide (s=(⟨#[95]⟩:ByteArray)) with
 | true=>exact Tr.tt rfl Tr.val
 | false =>
 refine Tr.ff rfl ?_
 have hs:=sz_list s
 have key:=zaj s.data.toList (fun k zs=>Tr (fun m=>zbq m s (k:Int)) (nmF k zs&&nmSz s)) ?_ ?_ 0 (Nat.zero_le _)
 ·simpa using key
 ·refine Tr.step (fun m=>by rw [zbq,hs,zad,cond_false,← hs]) (Tr.of fun m=>?_)
  rw [bif_and];rfl
 ·intro k x zs hk hx hd ih
  refine Tr.step (fun m=>by rw [zbq,ltN (show k < s.size by omega),cond_true]) ?_
  by_cases h12:k≤12
  ·refine Tr.tt (decide_eq_true (by omega)) (Tr.eq (fun m=>by rw [bidx_nat hx,Option.bind_some,zaM (by omega),zcj]) ?_)
   refine Tr.bind (l1Letter_tr _ _) ?_
   rw [nmF]
   cases letterB (x.toNat:Int) (decide ((k:Int)=0)) with
   | false=>exact Tr.tt rfl Tr.val
   | true=>exact Tr.ff rfl (by simpa using ih)
  ·refine Tr.ff (decide_eq_false (by omega)) (Tr.of fun m=>?_)
   have:nmSz s=false:=by unfold nmSz;rw [decide_eq_false (show ¬ (s.size:Int)≤12 by omega),Bool.and_false]
   rw [bif_and,this,Bool.and_false]
   rw [decide_eq_false (show ¬ (s.size:Int)≤12 by omega),Bool.and_false]
theorem within_tr (x lo hi:Int):Tr (fun m=>zdl m x lo hi) (decide (lo≤x)&&decide (x≤hi)) :=
 Tr.of (fun m=>by unfold zdl;rw [bif_and])
theorem star_eq (x:UInt8):decide (0≤Lib.indexByte [42,63,61,43,60] ((x.toNat:Int).toNat.toUInt8))=(decide ((x.toNat:Int)=42)||(decide ((x.toNat:Int)=63)||(decide ((x.toNat:Int)=61)||(decide ((x.toNat:Int)=43)||decide ((x.toNat:Int)=60))))):=by
 have hx:((x.toNat:Int).toNat.toUInt8)=x:=by rw [Int.toNat_natCast];exact UInt8.ofNat_toNat
 rw [hx]
 show decide (0≤Lib.indexByte [42,63,61,43,60] x)=_
 by_cases h1:x=42
 ·subst h1;decide
 by_cases h2:x=63
 ·subst h2;decide
 by_cases h3:x=61
 ·subst h3;decide
 by_cases h4:x=43
 ·subst h4;decide
 by_cases h5:x=60
 ·subst h5;decide
 have ne:∀ (y:UInt8) (z:Int),(y.toNat:Int)=z→x≠y→¬ ((x.toNat:Int)=z):=fun y z hz hy e=>hy (UInt8.toNat_inj.1 (by omega))
 have e:Lib.indexByte [42,63,61,43,60] x=-1:=by
  simp [Lib.indexByte,Ne.symm h1,Ne.symm h2,Ne.symm h3,Ne.symm h4,Ne.symm h5,beq_eq_false_iff_ne]
 rw [e,decide_eq_false (ne 42 42 rfl h1),decide_eq_false (ne 63 63 rfl h2),decide_eq_false (ne 61 61 rfl h3),decide_eq_false (ne 43 43 rfl h4),decide_eq_false (ne 60 60 rfl h5)]
 rfl
theorem implNm_tr (s:ByteArray) (hs:s.size≤9223372036854775807):Tr (fun m=>zdb m s) (nmOk s):=by
 refine Tr.eq (fun m=>by unfold zdb;rfl) ?_
 unfold nmOk
 cases decide (s=(⟨#[46,46,46]⟩:ByteArray)) with
 | true=>exact Tr.tt rfl Tr.val
 | false =>
 refine Tr.ff rfl ?_
 cases decide (s=(⟨#[95]⟩:ByteArray)) with
 | true=>exact Tr.tt rfl Tr.val
 | false =>
 refine Tr.ff rfl ?_
 have hsz:=sz_list s
 have key:=zaj s.data.toList (fun k zs=>Tr (fun m=>zR m s (k:Int)) (nmF k zs&&nmSz s)) ?_ ?_ 0 (Nat.zero_le _)
 ·simpa using key
 ·refine Tr.step (fun m=>by rw [zR,hsz,zad,cond_false,← hsz]) ?_
  refine Tr.bind (within_tr _ _ _) Tr.val
 ·intro k x zs hk hx hd ih
  refine Tr.step (fun m=>by rw [zR,ltN (show k < s.size by omega),cond_true,bidx_nat hx,Option.bind_some,zaM (by omega),zcj]) ?_
  simp only [zdU,Option.bind_some,star_eq]
  rw [nmF]
  unfold letterB
  have hp:decide (0 < (k:Int))=!decide ((k:Int)=0):=by
   rw [Bool.eq_iff_iff,Bool.not_eq_true',decide_eq_true_iff,decide_eq_false_iff_not];omega
  rw [hp]
  rw [Bool.and_assoc]
  generalize hR:(nmF (k+1) zs&&nmSz s)=R at ih ⊢
  generalize decide (97≤(x.toNat:Int))=b1
  generalize decide ((x.toNat:Int)≤122)=b2
  generalize decide ((x.toNat:Int)=42)=c1
  generalize decide ((x.toNat:Int)=63)=c2
  generalize decide ((x.toNat:Int)=61)=c3
  generalize decide ((x.toNat:Int)=43)=c4
  generalize decide ((x.toNat:Int)=60)=c5
  generalize decide ((k:Int)=0)=z
  generalize decide (48≤(x.toNat:Int))=b3
  generalize decide ((x.toNat:Int)≤57)=b4
  generalize decide ((x.toNat:Int)=45)=b5
  have hc:∀ a b c d e w:Bool,(a||(b||(c||(d||(e||w)))))=((a||(b||(c||(d||e))))||w):=by decide
  rw [hc c1 c2 c3 c4 c5]
  generalize (c1||(c2||(c3||(c4||c5))))=st
  cases b1<;>cases b2<;>cases st<;>cases z<;>cases b3<;>cases b4<;>cases b5<;>first | exact Tr.val | exact ih
def gtP:Option Int→Int→Bool
 | none,_=>true
 | some q,x=>decide (q < x)
def scF:Option Int→List Int→Bool
 | _,[]=>true
 | p,x::xs=>(decide (1≤x)&&decide (x≤99))&&(gtP p x&&scF (some x) xs)
def prevAt (l:List Int):Nat→Option Int
 | 0=>none
 | j+1=>l[j]?
def scOk (l:List Int):Bool:=scF none l&&decide ((l.length:Int)≤24)
theorem prev_succ {l:List Int} {k:Nat} {x:Int} (h:l[k]?=some x):prevAt l (k+1)=some x:=h
theorem pos_succ (k:Nat):decide ((0:Int) < ((k+1:Nat):Int))=true:=decide_eq_true (by omega)
theorem implSc_tr (l:List Int) (hl:l.length≤9223372036854775807):Tr (fun m=>zdJ m l) (scOk l):=by
 refine Tr.eq (fun m=>by unfold zdJ;rfl) ?_
 have key:=zaj l (fun k zs=>Tr (fun m=>zbn m l (k:Int)) (scF (prevAt l k) zs&&decide ((l.length:Int)≤24))) ?_ ?_ 0 (Nat.zero_le _)
 ·simpa [scOk,prevAt] using key
 ·exact Tr.step (fun m=>by rw [zbn,zad,cond_false];simp [scF]) Tr.val
 ·intro k x zs hk hx hd ih
  rw [prev_succ hx] at ih
  refine Tr.step (fun m=>by rw [zbn,ltN hk,cond_true,zL hx,Option.bind_some,zcj]) ?_
  refine Tr.bind (within_tr _ _ _) ?_
  rw [scF]
  cases (decide (1≤x)&&decide (x≤99)) with
  | false=>exact Tr.tt rfl Tr.val
  | true =>
  refine Tr.ff rfl ?_
  cases k with
  | zero=>exact Tr.ff (by simp) (by simpa [prevAt,gtP] using ih)
  | succ j =>
    have hj:l[j]?=some l[j]:=List.getElem?_eq_getElem (by omega)
    refine Tr.tt (pos_succ j) (Tr.eq (fun m=>by rw [zaM (by omega),show ((j+1:Nat):Int)-1=(j:Int) by omega,zL hj,Option.bind_some]) ?_)
    rw [show prevAt l (j+1)=some l[j] from hj,gtP]
    by_cases h:x≤l[j]
    ·rw [decide_eq_false (show ¬ l[j] < x by omega)];exact Tr.tt (decide_eq_true h) Tr.val
    ·rw [decide_eq_true (show l[j] < x by omega)];exact Tr.ff (decide_eq_false h) (by simpa using ih)
theorem specSc_tr (l:List Int) (hl:l.length≤9223372036854775807):Tr (fun m=>zdD m l) (scOk l):=by
 refine Tr.eq (fun m=>by unfold zdD;rfl) ?_
 have key:=zaj l (fun k zs=>Tr (fun m=>zbi m l (k:Int)) (scF (prevAt l k) zs&&decide ((l.length:Int)≤24))) ?_ ?_ 0 (Nat.zero_le _)
 ·simpa [scOk,prevAt] using key
 ·exact Tr.step (fun m=>by rw [zbi,zad,cond_false];simp [scF]) Tr.val
 ·intro k x zs hk hx hd ih
  rw [prev_succ hx] at ih
  refine Tr.step (fun m=>by rw [zbi,ltN hk,cond_true]) ?_
  by_cases h24:k≤24
  case neg =>
   refine Tr.ff (decide_eq_false (by omega)) (Tr.of fun m=>?_)
   rw [decide_eq_false (show ¬ (l.length:Int)≤24 by omega),Bool.and_false]
  refine Tr.tt (decide_eq_true (by omega)) (Tr.eq (fun m=>by rw [zL hx,Option.bind_some,Option.bind_some]) ?_)
  rw [scF]
  by_cases h1:x < 1
  ·rw [decide_eq_false (show ¬ 1≤x by omega)];exact Tr.tt (decide_eq_true h1) Tr.val
  rw [decide_eq_true (show 1≤x by omega)]
  refine Tr.ff (decide_eq_false h1) ?_
  by_cases h2:99 < x
  ·rw [decide_eq_false (show ¬ x≤99 by omega)];exact Tr.tt (decide_eq_true h2) Tr.val
  rw [decide_eq_true (show x≤99 by omega)]
  refine Tr.ff (decide_eq_false h2) ?_
  cases k with
  | zero=>exact Tr.ff (by simp) (Tr.eq (fun m=>by rw [zaM (by omega),zcj]) (by simpa [prevAt,gtP] using ih))
  | succ j =>
    have hj:l[j]?=some l[j]:=List.getElem?_eq_getElem (by omega)
    refine Tr.tt (pos_succ j) (Tr.eq (fun m=>by rw [Option.bind_some,zaM (by omega),show ((j+1:Nat):Int)-1=(j:Int) by omega,zL hj,Option.bind_some]) ?_)
    rw [show prevAt l (j+1)=some l[j] from hj,gtP]
    by_cases h:x≤l[j]
    ·rw [decide_eq_false (show ¬ l[j] < x by omega)];exact Tr.tt (decide_eq_true h) Tr.val
    ·rw [decide_eq_true (show l[j] < x by omega)];exact Tr.ff (decide_eq_false h) (Tr.eq (fun m=>by rw [zaM (by omega),zcj]) (by simpa using ih))
end Go.Abs
end
section
set_option linter.unusedVariables false
set_option linter.unusedSimpArgs false
namespace Go.Abs
mutual
def Form.isOk:Form→Nat→Bool
 | .mk kind name n scopes kids,d=>bif decide (d=0) then false else
   bif decide (kind=1) then (nmOk name&&(decide (n=0)&&(scOk scopes&&decide ((kids.length:Int)=0))))
   else bif decide (kind=2) then (decide (name=(⟨#[]⟩:ByteArray))&&((decide (0≤n)&&decide (n≤999))&&(decide ((scopes.length:Int)=0)&&decide ((kids.length:Int)=0))))
   else (decide (kind=3)&&(decide (name=(⟨#[]⟩:ByteArray))&&(decide (n=0)&&(decide ((scopes.length:Int)=0)&&Form.isOks kids (d-1)))))
def Form.isOks:List Form→Nat→Bool
 | [],_=>true
 | f::fs,d=>f.isOk d&&Form.isOks fs d
end
mutual
def Form.cnt:Form→Nat
 | .mk _ _ _ _ kids=>1+Form.cnts kids
def Form.cnts:List Form→Nat
 | []=>0
 | f::fs=>f.cnt+Form.cnts fs
end
theorem Form.isOks_eq (d:Nat):∀ l:List Form,Form.isOks l d=alls (fun x=>x.isOk d) l
 | []=>rfl
 | f::fs=>by rw [Form.isOks,alls,Form.isOks_eq d fs]
theorem Form.isOk_eq (f:Form) (d:Nat):f.isOk d=bif decide (d=0) then false else
  bif decide (f.kind=1) then (nmOk f.name&&(decide (f.n=0)&&(scOk f.scopes&&decide ((f.kids.length:Int)=0))))
  else bif decide (f.kind=2) then (decide (f.name=(⟨#[]⟩:ByteArray))&&((decide (0≤f.n)&&decide (f.n≤999))&&(decide ((f.scopes.length:Int)=0)&&decide ((f.kids.length:Int)=0))))
  else (decide (f.kind=3)&&(decide (f.name=(⟨#[]⟩:ByteArray))&&(decide (f.n=0)&&(decide ((f.scopes.length:Int)=0)&&alls (fun x=>x.isOk (d-1)) f.kids)))):=by
 obtain ⟨a,b,c,e,g⟩:=f;rw [Form.isOk,Form.isOks_eq];rfl
theorem Form.cnt_eq (f:Form):f.cnt=1+Form.cnts f.kids:=by obtain ⟨a,b,c,e,g⟩:=f;rw [Form.cnt];rfl
mutual
theorem Form.cnt_w:∀ f:Form,f.cnt≤f.w
 | .mk a b c d e=>by have:=Form.cnts_ws e;rw [Form.cnt,Form.w];omega
theorem Form.cnts_ws:∀ l:List Form,Form.cnts l≤Form.ws l
 | []=>by simp [Form.cnts]
 | f::fs=>by have:=Form.cnt_w f;have:=Form.cnts_ws fs;rw [Form.cnts,Form.ws];omega
end
def Form.valid (f:Form):Bool:=f.isOk 40&&decide (f.cnt≤400)
theorem l1Is_n:∀ (n:Nat) (f:Form) (d:Nat),f.w≤n→f.fit→d≤40→Tr (fun m=>zer m f (d:Int)) (f.isOk d):=by
 intro n
 induction n with
 | zero=>intro a d h;have:=a.w_pos;omega
 | succ n ih =>
   intro f d h hf hd
   obtain ⟨f1,f2,f3,f4⟩:=hf.parts
   have hw:=f.w_kids
   rw [Form.isOk_eq]
   refine Tr.step (fun m=>by rw [zer]) ?_
   cases hd0:decide (d=0) with
   | true=>exact Tr.tt (decide_eq_true (by simpa using hd0)) Tr.val
   | false =>
   have hd1:d≠0:=by simpa using hd0
   refine Tr.ff (decide_eq_false (by omega)) ?_
   rw [cond_false]
   cases decide (f.kind=1) with
   | true =>
     refine Tr.tt rfl (Tr.bind (specNm_tr _) ?_)
     rw [cond_true]
     cases nmOk f.name with
     | false=>exact Tr.ff rfl Tr.val
     | true =>
     refine Tr.tt rfl ?_
     cases decide (f.n=0) with
     | false=>exact Tr.ff rfl Tr.val
     | true =>
     refine Tr.tt rfl (Tr.bind (specSc_tr _ f2) ?_)
     cases scOk f.scopes with
     | false=>exact Tr.ff rfl Tr.val
     | true=>exact Tr.tt rfl Tr.val
   | false =>
   refine Tr.ff rfl ?_
   rw [cond_false]
   cases decide (f.kind=2) with
   | true =>
     refine Tr.tt rfl (Tr.of fun m=>?_)
     rw [cond_true]
     cases decide (f.name=(⟨#[]⟩:ByteArray))<;>cases decide (0≤f.n)<;>cases decide (f.n≤999)<;>cases decide ((f.scopes.length:Int)=0)<;>rfl
   | false =>
   refine Tr.ff rfl ?_
   rw [cond_false]
   by_cases h3:f.kind=3
   case neg=>rw [decide_eq_false h3];exact Tr.tt (by simpa using h3) Tr.val
   rw [decide_eq_true h3]
   refine Tr.ff (by simpa using h3) ?_
   by_cases h4:f.name=(⟨#[]⟩:ByteArray)
   case neg=>rw [decide_eq_false h4];exact Tr.tt (by simpa using h4) Tr.val
   rw [decide_eq_true h4]
   refine Tr.ff (by simpa using h4) ?_
   by_cases h5:f.n=0
   case neg=>rw [decide_eq_false h5];exact Tr.tt (by simpa using h5) Tr.val
   rw [decide_eq_true h5]
   refine Tr.ff (by simpa using h5) ?_
   by_cases h6:(f.scopes.length:Int)=0
   case neg=>rw [decide_eq_false h6];exact Tr.tt (by rw [decide_eq_true_eq];exact h6) Tr.val
   rw [decide_eq_true h6]
   refine Tr.ff (by rw [decide_eq_false_iff_not];exact fun h=>h h6) ?_
   have e:((d:Int)-1)=((d-1:Nat):Int):=by omega
   have:=loop_all (xs:=f.kids) (c:=true) (D:=fun x=>x.isOk (d-1)) (L:=fun m k=>zdt m f (d:Int) k) (E:=fun m x=>zer m x (w64 ((d:Int)-1))) (fun m k=>by rw [zdt]) (fun x hx=>by
    rw [zaM (by omega),e];exact ih x (d-1) (by have:=Form.ws_mem hx;omega) (Form.fits_mem f4 hx) (by omega))
   simpa using this
theorem l1Count_n:∀ (n:Nat) (f:Form),f.w≤n→f.w≤2 ^ 36→Tr (fun m=>zdu m f) (f.cnt:Int):=by
 intro n
 induction n with
 | zero=>intro a h;have:=a.w_pos;omega
 | succ n ih =>
   intro f h hb
   have hw:=f.w_kids
   have hc:=Form.cnts_ws f.kids
   refine Tr.step (fun m=>by rw [zdu]) ?_
   have key:=zaj f.kids (fun k zs=>∀ g:Nat,g+Form.ws zs≤2 ^ 37→Tr (fun m=>zb0 m f (g:Int) (k:Int)) ((g+Form.cnts zs:Nat):Int)) ?_ ?_ 0 (Nat.zero_le _) 1 (by simp;omega)
   ·rw [Form.cnt_eq];simpa using key
   ·intro g hg
    exact Tr.step (fun m=>by rw [zb0,zad,cond_false];simp [Form.cnts]) Tr.val
   ·intro k x zs hk hx hd ihk g hg
    have hm:=List.mem_of_getElem? hx
    have hxw:=Form.ws_mem hm
    have hcx:=Form.cnt_w x
    rw [Form.ws] at hg
    refine Tr.step (fun m=>by rw [zb0,ltN hk,cond_true,zL hx,Option.bind_some,zcj]) ?_
    refine Tr.bind (ih x (by omega) (by omega)) ?_
    refine Tr.eq (fun m=>by rw [zaM (by omega),show (g:Int)+(x.cnt:Int)=((g+x.cnt:Nat):Int) by omega]) ?_
    rw [Form.cnts,← Nat.add_assoc]
    exact ihk _ (by omega)
theorem ze0 (f:Form) (hf:f.fit) (hb:f.w≤2 ^ 36):Tr (fun m=>zcL m f) f.valid:=by
 refine Tr.eq (fun m=>by unfold zcL;rfl) (Tr.bind (l1Is_n _ f 40 (Nat.le_refl _) hf (by omega)) ?_)
 unfold Form.valid
 cases f.isOk 40 with
 | false=>exact Tr.ff rfl Tr.val
 | true =>
   refine Tr.tt rfl (Tr.bind (l1Count_n _ f (Nat.le_refl _) hb) (Tr.of fun m=>?_))
   rw [Bool.true_and];congr 1
   rw [Bool.eq_iff_iff,decide_eq_true_iff,decide_eq_true_iff];omega
theorem formOk_n:∀ (n:Nat) (f:Form) (d:Nat) (g:Int),f.w≤n→f.fit→1≤d→d≤41→0≤g→g≤400→TQ (fun m=>zd0 m f (d:Int) g) (fun r=>r.1=(f.isOk (41-d)&&decide ((f.cnt:Int)≤g))∧(r.1=true→r.2=g-f.cnt)):=by
 intro n
 induction n with
 | zero=>intro a d g h;have:=a.w_pos;omega
 | succ n ih =>
   intro f d g h hf hd hd' hg hg'
   obtain ⟨f1,f2,f3,f4⟩:=hf.parts
   have hw:=f.w_kids
   have hcn:=f.cnt_eq
   rw [Form.isOk_eq]
   refine TQ.step (fun m=>by rw [zd0,zaM (by omega)]) ?_
   by_cases hg0:g-1 < 0
   ·refine TQ.eq (fun m=>by rw [decide_eq_true hg0,cond_true]) (TQ.val ⟨?_,fun h=>by cases h⟩)
    rw [decide_eq_false (show ¬ (f.cnt:Int)≤g by omega),Bool.and_false]
   refine TQ.eq (fun m=>by rw [decide_eq_false hg0,cond_false]) ?_
   by_cases hd0:40 < (d:Int)
   ·refine TQ.eq (fun m=>by rw [decide_eq_true hd0,cond_true]) (TQ.val ⟨?_,fun h=>by cases h⟩)
    rw [decide_eq_true (show 41-d=0 by omega),cond_true,Bool.false_and]
   refine TQ.eq (fun m=>by rw [decide_eq_false hd0,cond_false]) ?_
   rw [decide_eq_false (show ¬ 41-d=0 by omega),cond_false]
   have leaf:∀ (b:Bool),((b&&decide ((f.kids.length:Int)=0))=true→True):=fun _ _=>trivial
   have cnt1:(f.kids.length:Int)=0→(f.cnt:Int)=1:=fun h=>by
    have:f.kids=[]:=List.eq_nil_of_length_eq_zero (by omega)
    rw [hcn,this,Form.cnts];rfl
   have fin:TQ (fun _=>some ((decide ((f.kids.length:Int)=0)),g-1)) (fun r=>r.1=(decide ((f.kids.length:Int)=0)&&decide ((f.cnt:Int)≤g))∧(r.1=true→r.2=g-f.cnt)):=by
    refine TQ.val ⟨?_,fun h=>by have:=cnt1 (by simpa using h);omega⟩
    by_cases hk:(f.kids.length:Int)=0
    ·have:=cnt1 hk
     rw [decide_eq_true hk,decide_eq_true (show (f.cnt:Int)≤g by omega)];rfl
    ·rw [decide_eq_false hk];rfl
   have no:TQ (fun _=>some (false,g-1)) (fun r=>r.1=(false&&decide ((f.cnt:Int)≤g))∧(r.1=true→r.2=g-f.cnt)):=TQ.val ⟨rfl,fun h=>by cases h⟩
   cases decide (f.kind=1) with
   | true =>
     refine TQ.eq (fun m=>by rw [cond_true]) (TQ.ev (implNm_tr _ f1) ?_)
     rw [cond_true]
     cases nmOk f.name with
     | false=>exact no
     | true =>
     refine TQ.eq (fun m=>by rw [cond_true]) ?_
     cases decide (f.n=0) with
     | false=>exact no
     | true =>
     refine TQ.eq (fun m=>by rw [cond_true]) (TQ.ev (implSc_tr _ f2) ?_)
     cases scOk f.scopes with
     | false=>exact no
     | true=>exact fin
   | false =>
   refine TQ.eq (fun m=>by rw [cond_false]) ?_
   rw [cond_false]
   cases decide (f.kind=2) with
   | true =>
     refine TQ.eq (fun m=>by rw [cond_true]) ?_
     rw [cond_true]
     cases decide (f.name=(⟨#[]⟩:ByteArray)) with
     | false=>exact no
     | true =>
     refine TQ.eq (fun m=>by rw [cond_true]) (TQ.ev (within_tr _ _ _) ?_)
     cases (decide (0≤f.n)&&decide (f.n≤999)) with
     | false=>exact no
     | true =>
     refine TQ.eq (fun m=>by rw [cond_true]) ?_
     cases decide ((f.scopes.length:Int)=0) with
     | false=>exact no
     | true=>exact fin
   | false =>
   refine TQ.eq (fun m=>by rw [cond_false]) ?_
   rw [cond_false]
   cases decide (f.kind=3) with
   | false=>exact no
   | true =>
   refine TQ.eq (fun m=>by rw [cond_true]) ?_
   by_cases h4:f.name=(⟨#[]⟩:ByteArray)
   case neg=>rw [decide_eq_false h4];exact TQ.eq (fun m=>by rw [decide_eq_true h4,cond_true]) no
   rw [decide_eq_true h4]
   refine TQ.eq (fun m=>by rw [decide_eq_false (fun h=>h h4),cond_false]) ?_
   by_cases h5:f.n=0
   case neg=>rw [decide_eq_false h5];exact TQ.eq (fun m=>by rw [decide_eq_true h5,cond_true]) no
   rw [decide_eq_true h5]
   refine TQ.eq (fun m=>by rw [decide_eq_false (fun h=>h h5),cond_false]) ?_
   by_cases h6:(f.scopes.length:Int)=0
   case neg=>rw [decide_eq_false h6];exact TQ.eq (fun m=>by rw [decide_eq_true (show 0 < (f.scopes.length:Int) by omega),cond_true]) no
   rw [decide_eq_true h6]
   refine TQ.eq (fun m=>by rw [decide_eq_false (show ¬ 0 < (f.scopes.length:Int) by omega),cond_false]) ?_
   have key:=zaj f.kids (fun k zs=>∀ g:Int,0≤g→g≤400→TQ (fun m=>zch m f (d:Int) (k:Int) g) (fun r=>r.1=(alls (fun x=>x.isOk (41-d-1)) zs&&decide ((Form.cnts zs:Int)≤g))∧(r.1=true→r.2=g-Form.cnts zs))) ?_ ?_ 0 (Nat.zero_le _) (g-1) (by omega) (by omega)
   ·refine TQ.mono (by simpa using key) (fun r hr=>⟨?_,fun h=>by have:=hr.2 h;omega⟩)
    rw [hr.1]
    simp only [Bool.true_and]
    congr 1
    rw [Bool.eq_iff_iff,decide_eq_true_iff,decide_eq_true_iff];omega
   ·intro g hg _
    exact TQ.step (fun m=>by rw [zch,zad,cond_false]) (TQ.val ⟨by simp [alls,Form.cnts,hg],fun _=>by simp [Form.cnts]⟩)
   ·intro k x zs hk hx hdr ihk g hg hg'
    have hm:=List.mem_of_getElem? hx
    refine TQ.step (fun m=>by rw [zch,ltN hk,cond_true,zL hx,Option.bind_some,zcj,zaM (by omega),zcj]) ?_
    refine TQ.bind (ih x (d+1) g (by have:=Form.ws_mem hm;omega) (Form.fits_mem f4 hm) (by omega) (by omega) hg hg') (fun r hr=>?_)
    obtain ⟨h1,h2⟩:=hr
    have e:41-(d+1)=41-d-1:=by omega
    rw [e] at h1
    refine TQ.cond (fun hb=>?_) (fun hb=>?_)
    ·refine TQ.val ⟨?_,fun h=>by cases h⟩
     replace hb:r.1=false:=by simpa using hb
     rw [hb] at h1
     rw [alls,Form.cnts]
     cases hx:x.isOk (41-d-1) with
     | false=>rfl
     | true =>
       rw [hx,Bool.true_and] at h1
       have:¬ (x.cnt:Int)≤g:=of_decide_eq_false h1.symm
       rw [decide_eq_false (show ¬ ((x.cnt+Form.cnts zs:Nat):Int)≤g by omega),Bool.and_false]
    ·replace hb:r.1=true:=by simpa using hb
     have h3:=h2 hb
     rw [hb] at h1
     have h4:=(Bool.and_eq_true _ _ ▸ h1.symm:_∧_)
     have h5:(x.cnt:Int)≤g:=of_decide_eq_true h4.2
     refine TQ.mono (ihk r.2 (by omega) (by omega)) (fun q hq=>⟨?_,fun h=>by have:=hq.2 h;rw [Form.cnts];omega⟩)
     rw [hq.1,alls,Form.cnts,h4.1,Bool.true_and]
     congr 1
     rw [Bool.eq_iff_iff,decide_eq_true_iff,decide_eq_true_iff];omega
theorem ze9 (f:Form) (hf:f.fit):Tr (fun m=>zcO m f) f.valid:=by
 obtain ⟨r,h1,h2,_⟩:=formOk_n _ f 1 400 (Nat.le_refl _) hf (by omega) (by omega) (by omega) (by omega)
 refine Tr.eq (fun m=>by unfold zcO;rfl) (Tr.bind h1 (Tr.of fun m=>?_))
 rw [h2];unfold Form.valid;congr 2
 rw [Bool.eq_iff_iff,decide_eq_true_iff,decide_eq_true_iff];omega
end Go.Abs
end
section
set_option linter.unusedVariables false
set_option linter.unusedSimpArgs false
namespace Go.Abs
abbrev dotsN:ByteArray:=(⟨#[46,46,46]⟩:ByteArray)
abbrev zgd:ByteArray:=(⟨#[95]⟩:ByteArray)
abbrev form0:Form:=Form.mk 0 (⟨#[]⟩:ByteArray) 0 ([]:List Int) ([]:List Form)
def isNm (f:Form):Bool:=decide (f.kind=1)&&f.valid
theorem zgk (f:Form) (hf:f.fit):Tr (fun m=>zdo m f) (isNm f):=by
 refine Tr.eq (fun m=>by unfold zdo;rfl) ?_
 unfold isNm
 cases decide (f.kind=1) with
 | false=>exact Tr.ff rfl Tr.val
 | true=>exact Tr.tt rfl (Tr.bind (ze9 f hf) Tr.val)
theorem l3Is_tr (f:Form) (hf:f.fit) (hb:f.w≤2 ^ 36):Tr (fun m=>zgs m f) (isNm f):=by
 refine Tr.eq (fun m=>by unfold zgs;rfl) ?_
 unfold isNm
 cases decide (f.kind=1) with
 | false=>exact Tr.ff rfl Tr.val
 | true=>exact Tr.tt rfl (Tr.bind (ze0 f hf hb) Tr.val)
mutual
noncomputable def Hit.isOk:Hit→Bool
 | .mk name depth one many=>isNm name&&(!decide (name.name=dotsN)&&(!decide (name.name=zgd)&&((decide (0≤depth)&&decide (depth≤3)) &&
   bif decide (depth=0) then (one.valid&&decide ((many.length:Int)=0)) else (same one form0&&(decide ((many.length:Int)≤400)&&Hit.isOks many name (depth-1))))))
noncomputable def Hit.isOks:List Hit→Form→Int→Bool
 | [],_,_=>true
 | x::xs,nm,d=>(same x.name nm&&(decide (x.depth=d)&&x.isOk))&&Hit.isOks xs nm d
end
theorem Hit.isOks_eq (nm:Form) (d:Int):∀ l:List Hit,Hit.isOks l nm d=alls (fun x=>same x.name nm&&(decide (x.depth=d)&&x.isOk)) l
 | []=>by rw [Hit.isOks,alls]
 | x::xs=>by rw [Hit.isOks,alls,Hit.isOks_eq nm d xs]
theorem Hit.isOk_eq (h:Hit):h.isOk=(isNm h.name&&(!decide (h.name.name=dotsN)&&(!decide (h.name.name=zgd)&&((decide (0≤h.depth)&&decide (h.depth≤3)) &&
  bif decide (h.depth=0) then (h.one.valid&&decide ((h.many.length:Int)=0)) else (same h.one form0&&(decide ((h.many.length:Int)≤400)&&alls (fun x=>same x.name h.name&&(decide (x.depth=h.depth-1)&&x.isOk)) h.many)))))):=by
 obtain ⟨a,b,c,d⟩:=h;rw [Hit.isOk,Hit.isOks_eq];rfl
theorem fnd_none {α:Type} {D:α→Bool} {l:List α} {k:Nat}:decide (0≤fnd D l k)=!alls (fun x=>!D x) l:=by
 rw [Bool.eq_iff_iff,decide_eq_true_iff,fnd_ge,Bool.not_eq_true',← Bool.not_eq_true,zfG]
 constructor
 ·rintro ⟨x,hx,h⟩ hh
  have:=hh x hx
  rw [h] at this;cases this
 ·intro h
  refine Classical.byContradiction fun hn=>h fun x hx=>?_
  cases hd:D x with
  | false=>rfl
  | true=>exact absurd ⟨x,hx,hd⟩ hn
noncomputable def hvF:List Hit→List Hit→Bool
 | _,[]=>true
 | ps,x::xs=>x.isOk&&(alls (fun y=>!same y.name x.name) ps&&hvF (ps++[x]) xs)
noncomputable def hvOk (l:List Hit):Bool:=hvF [] l&&decide ((l.length:Int)≤20)
theorem zfL {α:Type} {l:List α} {k:Nat} {x:α} (h:l[k]?=some x):l.take (k+1)=l.take k++[x]:=by
 rw [List.take_add_one,h];rfl
theorem sub_take {α:Type} {l:List α} {k:Nat} (h:k≤l.length):sub l 0 (k:Int)=some (l.take k):=by
 unfold sub
 rw [show (decide ((0:Int)≤0)&&decide ((0:Int)≤k)&&decide ((k:Int)≤l.length))=true by simp;omega,cond_true]
 simp
end Go.Abs
end
section
set_option linter.unusedVariables false
set_option linter.unusedSimpArgs false
namespace Go.Abs
def zM (f:Form):Bool:=decide (f.kind=1)&&decide (f.name=dotsN)
theorem named_tr (f:Form) (s:ByteArray):Tr (fun m=>zdn m f s) (decide (f.kind=1)&&decide (f.name=s)) :=
 Tr.of (fun m=>by unfold zdn;rw [bif_and])
theorem zha (f:Form):Tr (fun m=>zcs m f) (zM f) :=
 Tr.of (fun m=>by unfold zcs zM;rw [bif_and])
noncomputable def depF:List (Form × Int)→Form→Int
 | [],_=>-1
 | p::ps,f=>bif same p.1 f then p.2 else depF ps f
noncomputable def dep (l:List (Form × Int)) (f:Form):Int:=bif decide (f.kind≠1) then -1 else depF l f
def nd (l:List Hit):List (Form × Int):=l.map fun h=>(h.name,h.depth)
def zcq:List Form→Bool
 | []=>false
 | y::_=>zM y
mutual
def Form.dotsOk (one:Bool):Form→Bool
 | .mk _ _ _ _ kids=>Form.kD one true false kids
def Form.kD (one:Bool):Bool→Bool→List Form→Bool
 | _,_,[]=>true
 | pd,sn,x::xs=>(bif zM x then (!pd&&!(one&&sn)) else x.dotsOk one)&&Form.kD one (zM x) (sn||zM x) xs
end
theorem Form.dotsOk_eq (one:Bool) (f:Form):f.dotsOk one=Form.kD one true false f.kids:=by obtain ⟨a,b,c,d,e⟩:=f;rw [Form.dotsOk];rfl
def pdAt (l:List Form):Nat→Bool
 | 0=>true
 | j+1=>match l[j]? with
   | some y=>zM y
   | none=>true
theorem pd_succ {l:List Form} {k:Nat} {x:Form} (h:l[k]?=some x):pdAt l (k+1)=zM x:=by rw [pdAt,h]
theorem dotsOk_n (one:Bool):∀ (n:Nat) (f:Form),f.w≤n→f.w≤2 ^ 36→Tr (fun m=>zdp m f one) (f.dotsOk one):=by
 intro n
 induction n with
 | zero=>intro a h;have:=a.w_pos;omega
 | succ n ih =>
   intro f h hb
   have hw:=f.w_kids
   have hlen:=Form.ws_len f.kids
   rw [Form.dotsOk_eq]
   refine Tr.step (fun m=>by rw [zdp]) ?_
   have key:=zaj f.kids (fun k zs=>Tr (fun m=>zbB m f one (k:Int)) (Form.kD one (pdAt f.kids k) (!alls (fun y=>!zM y) (f.kids.take k)) zs)) ?_ ?_ 0 (Nat.zero_le _)
   ·simpa [pdAt,alls] using key
   ·exact Tr.step (fun m=>by rw [zbB,zad,cond_false,Form.kD]) Tr.val
   ·intro k x zs hk hx hd ihk
    have hm:=List.mem_of_getElem? hx
    have hxw:=Form.ws_mem hm
    rw [pd_succ hx,zfL hx] at ihk
    have ea:∀ l:List Form,(!alls (fun y=>!zM y) (l++[x]))=((!alls (fun y=>!zM y) l)||zM x):=by
     intro l
     induction l with
     | nil=>simp [alls]
     | cons y l ihl=>rw [List.cons_append,alls,alls,Bool.not_and,ihl,Bool.not_and,Bool.or_assoc]
    rw [ea] at ihk
    refine Tr.step (fun m=>by rw [zbB,ltN hk,cond_true,zL hx,Option.bind_some,zcj]) (Tr.bind (named_tr _ _) ?_)
    rw [show (decide (x.kind=1)&&decide (x.name=(⟨#[46,46,46]⟩:ByteArray)))=zM x from rfl,Form.kD]
    cases hxd:zM x with
    | false =>
      rw [hxd] at ihk
      refine Tr.ff rfl (Tr.bind (ih x (by omega) (by omega)) ?_)
      rw [cond_false]
      cases x.dotsOk one with
      | false=>exact Tr.tt rfl Tr.val
      | true=>exact Tr.ff rfl (by simpa using ihk)
    | true =>
      rw [hxd] at ihk
      refine Tr.tt rfl ?_
      rw [cond_true]
      cases k with
      | zero=>exact Tr.tt rfl Tr.val
      | succ j =>
        have hj:f.kids[j]?=some f.kids[j]:=List.getElem?_eq_getElem (by omega)
        refine Tr.ff (decide_eq_false (by omega)) (Tr.eq (fun m=>by rw [zaM (by omega),show ((j+1:Nat):Int)-1=(j:Int) by omega,zL hj,Option.bind_some]) (Tr.bind (named_tr _ _) ?_))
        rw [show (decide (f.kids[j].kind=1)&&decide (f.kids[j].name=(⟨#[46,46,46]⟩:ByteArray)))=zM f.kids[j] from rfl,pd_succ hj]
        cases zM f.kids[j] with
        | true=>exact Tr.tt rfl Tr.val
        | false =>
        refine Tr.ff rfl ?_
        cases one with
        | false=>exact Tr.ff rfl (by simpa using ihk)
        | true =>
          refine Tr.tt rfl (Tr.eq (fun m=>by rw [sub_take (by omega),Option.bind_some]) ?_)
          refine Tr.bind (v:=fnd zM (f.kids.take (j+1)) 0) ?_ ?_
          ·refine Tr.eq (fun m=>by unfold zd1;rfl) (Tr.bind ?_ Tr.val)
           refine Tr.eq (fun m=>by unfold zaG;rfl) ?_
           exact zgw (L:=fun m i=>zG m (f.kids.take (j+1)) i) (E:=fun m y=>zc2 m y) (fun m i=>by rw [zG]) (fun y _=>Tr.eq (fun m=>by unfold zc2;rfl) (Tr.bind (named_tr _ _) Tr.val))
          ·have e:=fnd_none (D:=zM) (l:=f.kids.take (j+1)) (k:=0)
           cases ha:alls (fun y=>!zM y) (f.kids.take (j+1)) with
           | false=>rw [ha] at e;exact Tr.tt e Tr.val
           | true=>rw [ha] at e ihk;exact Tr.ff e (by simpa using ihk)
theorem dotsOk_tr (one:Bool) (f:Form) (hb:f.w≤2 ^ 36):Tr (fun m=>zdp m f one) (f.dotsOk one):=dotsOk_n one _ f (Nat.le_refl _) hb
end Go.Abs
end
section
set_option linter.unusedVariables false
set_option linter.unusedSimpArgs false
namespace Go.Abs
mutual
noncomputable def Form.anyD (l:List (Form × Int)) (v:Int):Form→Bool
 | .mk k nm n sc kids=>decide (v < dep l (.mk k nm n sc kids))||Form.anyDs l v kids
noncomputable def Form.anyDs (l:List (Form × Int)) (v:Int):List Form→Bool
 | []=>false
 | x::xs=>x.anyD l v||Form.anyDs l v xs
end
def lessI (k:Nat) (d:Int):Int:=bif decide (0 < d) then (bif decide ((k:Int) < d) then d-k else 0) else d
theorem lessI_succ (k:Nat) (d:Int):lessI (k+1) d=bif decide (0 < lessI k d) then lessI k d-1 else lessI k d:=by
 unfold lessI
 by_cases h:0 < d
 ·rw [decide_eq_true h,cond_true,cond_true]
  by_cases h2:(k:Int) < d
  ·rw [decide_eq_true h2,cond_true,decide_eq_true (show 0 < d-(k:Int) by omega),cond_true]
   by_cases h3:((k+1:Nat):Int) < d
   ·rw [decide_eq_true h3,cond_true];omega
   ·rw [decide_eq_false h3,cond_false];omega
  ·rw [decide_eq_false h2,cond_false,decide_eq_false (show ¬ ((k+1:Nat):Int) < d by omega),cond_false];rfl
 ·rw [decide_eq_false h,cond_false,cond_false,decide_eq_false h,cond_false]
theorem lessI_zero (d:Int):lessI 0 d=d:=by
 unfold lessI
 by_cases h:0 < d
 ·rw [decide_eq_true h,cond_true,decide_eq_true (show ((0:Nat):Int) < d by omega),cond_true];omega
 ·rw [decide_eq_false h,cond_false]
def rowOf (h:Hit):Hit:=Hit.mk h.name (bif decide (0 < h.depth) then h.depth-1 else h.depth) h.one ([]:List Hit)
theorem depF_row (f:Form):∀ l:List Hit,depF (nd (l.map rowOf)) f=bif decide (0 < depF (nd l) f) then depF (nd l) f-1 else depF (nd l) f
 | []=>rfl
 | h::hs=>by
   have ih:=depF_row f hs
   simp only [nd,List.map_cons,List.map_map] at ih ⊢
   rw [depF,depF]
   show (bif same h.name f then _ else _)=_
   simp only
   cases same h.name f with
   | true=>rfl
   | false=>simp only [cond_false];exact ih
theorem dep_row (f:Form) (l:List Hit):dep (nd (l.map rowOf)) f=bif decide (0 < dep (nd l) f) then dep (nd l) f-1 else dep (nd l) f:=by
 unfold dep
 cases decide (f.kind≠1) with
 | true=>rfl
 | false=>simp only [cond_false];exact depF_row f l
structure RowK (k:Nat) (l' l:List Hit):Prop where
 dep:∀ f,Abs.dep (nd l') f=lessI k (Abs.dep (nd l) f)
 len:l'.length=l.length
 fit:∀ h∈l',-9223372036854775808≤h.depth∧h.depth≤9223372036854775807
theorem RowK.zero {l:List Hit} (h:∀ h∈l,-9223372036854775808≤h.depth∧h.depth≤9223372036854775807):RowK 0 l l:=⟨fun f=>(lessI_zero _).symm,rfl,h⟩
theorem RowK.succ {k:Nat} {l' l:List Hit} (h:RowK k l' l):RowK (k+1) (l'.map rowOf) l:=by
 refine ⟨fun f=>by rw [dep_row,h.dep f,lessI_succ],by rw [List.length_map,h.len],fun y hy=>?_⟩
 obtain ⟨x,hx,rfl⟩:=List.mem_map.1 hy
 obtain ⟨h1,h2⟩:=h.fit x hx
 show -9223372036854775808≤(bif decide (0 < x.depth) then x.depth-1 else x.depth)∧(bif decide (0 < x.depth) then x.depth-1 else x.depth)≤9223372036854775807
 by_cases h0:0 < x.depth
 ·rw [decide_eq_true h0,cond_true];omega
 ·rw [decide_eq_false h0,cond_false];exact ⟨h1,h2⟩
mutual
noncomputable def Form.rws (l:List (Form × Int)):Nat→Form→Bool
 | v,.mk k nm n sc kids=>!decide ((v:Int) < dep l (.mk k nm n sc kids))&&Form.kR l v kids
noncomputable def Form.kR (l:List (Form × Int)):Nat→List Form→Bool
 | _,[]=>true
 | v,x::xs=>(bif zM x then true else bif zcq xs then (x.anyD l v&&x.rws l (v+1)) else x.rws l v)&&Form.kR l v xs
end
theorem Form.rws_eq (l:List (Form × Int)) (v:Nat) (f:Form):f.rws l v=(!decide ((v:Int) < dep l f)&&Form.kR l v f.kids):=by obtain ⟨a,b,c,d,e⟩:=f;rw [Form.rws];rfl
theorem next_get {l:List Form} {k:Nat} {x:Form} {zs:List Form} (hd:l.drop k=x::zs):(zs=[]∧l.length=k+1)∨(∃ y ys,zs=y::ys∧l[k+1]?=some y∧k+1 < l.length):=by
 have hl:l.length=k+(x::zs).length:=by
  have:=congrArg List.length hd
  rw [List.length_drop] at this
  have:(x::zs).length≠0:=by simp
  omega
 cases zs with
 | nil=>exact .inl ⟨rfl,by simpa using hl⟩
 | cons y ys =>
   refine .inr ⟨y,ys,rfl,?_,by rw [hl];simp⟩
   have:(l.drop k)[1]?=some y:=by rw [hd];rfl
   rwa [List.getElem?_drop] at this
end Go.Abs
end
section
set_option linter.unusedVariables false
set_option linter.unusedSimpArgs false
namespace Go.Abs
end Go.Abs
end
section
set_option linter.unusedVariables false
set_option linter.unusedSimpArgs false
namespace Go.Abs
noncomputable def inF (l:List Form) (f:Form):Bool:=!alls (fun x=>!same x f) l
theorem isIn_tr (l:List Form) (f:Form):Tr (fun m=>zev m l f) (inF l f):=by
 refine Tr.eq (fun m=>by unfold zev;rfl) (Tr.bind ?_ Tr.val)
 refine Tr.eq (fun m=>by unfold zbk;rfl) (Tr.bind (v:=fnd (fun y=>same y f) l 0) ?_ (Tr.of fun m=>by rw [fnd_none];rfl))
 refine Tr.eq (fun m=>by unfold zbJ;rfl) ?_
 exact zgw (L:=fun m j=>z8 m l f j) (E:=fun m y=>zfy m y f) (fun m j=>by rw [z8]) (fun y _=>Tr.eq (fun m=>by unfold zfy;rfl) (Tr.bind (implFormSame_tr _ _) Tr.val))
theorem l4In_tr (l:List Form) (f:Form):Tr (fun m=>zep m l f) (inF l f):=by
 refine Tr.eq (fun m=>by unfold zep;rfl) ?_
 have key:=zaj l (fun k zs=>Tr (fun m=>zcX m l f (k:Int)) (inF zs f)) ?_ ?_ 0 (Nat.zero_le _)
 ·simpa using key
 ·exact Tr.step (fun m=>by rw [zcX,zad,cond_false];rfl) Tr.val
 ·intro k x zs hk hx hd ih
  refine Tr.step (fun m=>by rw [zcX,ltN hk,cond_true,zL hx,Option.bind_some,zcj]) (Tr.bind (specFormSame_tr _ _) ?_)
  unfold inF;rw [alls]
  cases same x f with
  | true=>exact Tr.tt rfl Tr.val
  | false=>exact Tr.ff rfl (by simpa [inF] using ih)
noncomputable def litF:List Form→List Form→Bool
 | _,[]=>true
 | ps,x::xs=>isNm x&&(!decide (x.name=dotsN)&&(!decide (x.name=zgd)&&(!inF ps x&&litF (ps++[x]) xs)))
noncomputable def litOk (l:List Form):Bool:=litF [] l&&decide ((l.length:Int)≤9)
theorem implLit_tr (l:List Form) (hf:Form.fits l):Tr (fun m=>zdM m l) (litOk l):=by
 refine Tr.eq (fun m=>by unfold zdM;rfl) ?_
 have key:=zaj l (fun k zs=>Tr (fun m=>zbe m l (k:Int)) (litF (l.take k) zs&&decide ((l.length:Int)≤9))) ?_ ?_ 0 (Nat.zero_le _)
 ·simpa [litOk] using key
 ·exact Tr.step (fun m=>by rw [zbe,zad,cond_false,litF,Bool.true_and]) Tr.val
 ·intro k x zs hk hx hd ih
  have hm:=List.mem_of_getElem? hx
  rw [zfL hx] at ih
  refine Tr.step (fun m=>by rw [zbe,ltN hk,cond_true,zL hx,Option.bind_some,zcj]) (Tr.bind (zgk x (Form.fits_mem hf hm)) ?_)
  rw [litF]
  cases isNm x with
  | false=>exact Tr.tt rfl Tr.val
  | true =>
  refine Tr.ff rfl ?_
  cases decide (x.name=dotsN) with
  | true=>exact Tr.tt rfl Tr.val
  | false =>
  refine Tr.ff rfl ?_
  cases decide (x.name=zgd) with
  | true=>exact Tr.tt rfl Tr.val
  | false =>
  refine Tr.ff rfl (Tr.eq (fun m=>by rw [sub_take (by omega),Option.bind_some]) (Tr.bind (isIn_tr _ _) ?_))
  cases inF (l.take k) x with
  | true=>exact Tr.tt rfl Tr.val
  | false=>exact Tr.ff rfl (by simpa using ih)
theorem specLit_tr (l:List Form) (hf:Form.fits l) (hb:Form.ws l≤2 ^ 36):Tr (fun m=>zdC m l) (litOk l):=by
 refine Tr.eq (fun m=>by unfold zdC;rfl) ?_
 have hlen:=Form.ws_len l
 have e9:decide ((l.length:Int) < 10)=decide ((l.length:Int)≤9):=by
  rw [Bool.eq_iff_iff,decide_eq_true_iff,decide_eq_true_iff];omega
 have key:=zaj l (fun k zs=>Tr (fun m=>za9 m l (k:Int)) (litF (l.take k) zs&&decide ((l.length:Int)≤9))) ?_ ?_ 0 (Nat.zero_le _)
 ·simpa [litOk] using key
 ·exact Tr.step (fun m=>by rw [za9,zad,cond_false,litF,Bool.true_and,e9]) Tr.val
 ·intro k x zs hk hx hd ih
  have hm:=List.mem_of_getElem? hx
  have hmw:=Form.ws_mem hm
  rw [zfL hx] at ih
  refine Tr.step (fun m=>by rw [za9,ltN hk,cond_true,e9]) ?_
  by_cases h10:k < 10
  case neg =>
   refine Tr.ff (decide_eq_false (by omega)) (Tr.of fun m=>?_)
   rw [decide_eq_false (show ¬ (l.length:Int)≤9 by omega),Bool.and_false]
  refine Tr.tt (decide_eq_true (by omega)) (Tr.eq (fun m=>by rw [zL hx,Option.bind_some]) (Tr.bind (l3Is_tr x (Form.fits_mem hf hm) (by omega)) ?_))
  rw [litF]
  cases isNm x with
  | false=>exact Tr.tt rfl Tr.val
  | true =>
  refine Tr.ff rfl (Tr.eq (fun m=>by rw [Option.bind_some]) ?_)
  cases decide (x.name=dotsN) with
  | true=>exact Tr.tt rfl Tr.val
  | false =>
  refine Tr.ff rfl (Tr.eq (fun m=>by rw [Option.bind_some]) ?_)
  cases decide (x.name=zgd) with
  | true=>exact Tr.tt rfl Tr.val
  | false =>
  refine Tr.ff rfl (Tr.eq (fun m=>by rw [sub_take (by omega),Option.bind_some,Option.bind_some,zaM (by omega),zcj]) (Tr.bind (l4In_tr _ _) ?_))
  cases inF (l.take k) x with
  | true=>exact Tr.tt rfl Tr.val
  | false=>exact Tr.ff rfl (by simpa using ih)
def cntD:List Form→Nat
 | []=>0
 | x::xs=>(bif zM x then 1 else 0)+cntD xs
mutual
def Form.shp:Form→Bool
 | .mk k nm n sc kids=>!zM (.mk k nm n sc kids)&&(Form.kP true kids&&decide (cntD kids≤1))
def Form.kP:Bool→List Form→Bool
 | _,[]=>true
 | pd,x::xs=>(bif zM x then !pd else x.shp)&&Form.kP (zM x) xs
end
theorem Form.shp_eq (f:Form):f.shp=(!zM f&&(Form.kP true f.kids&&decide (cntD f.kids≤1))):=by obtain ⟨a,b,c,d,e⟩:=f;rw [Form.shp];rfl
mutual
theorem Form.shp_dots:∀ f:Form,f.shp=(!zM f&&f.dotsOk true)
 | .mk k nm n sc kids=>by
   have:=Form.kP_dots kids true false
   rw [Form.shp,Form.dotsOk,← this]
   simp
theorem Form.kP_dots:∀ (zs:List Form) (pd sn:Bool),(Form.kP pd zs&&decide (cntD zs+(bif sn then 1 else 0)≤1))=Form.kD true pd sn zs
 | [],pd,sn=>by rw [Form.kP,Form.kD,cntD];cases sn<;>rfl
 | x::xs,pd,sn=>by
   have h1:=Form.shp_dots x
   have h2:=Form.kP_dots xs (zM x) (sn||zM x)
   rw [Form.kP,Form.kD,cntD,← h2,h1]
   cases hx:zM x with
   | false=>simp [Bool.and_assoc]
   | true =>
     cases sn with
     | false=>simp [Bool.and_assoc,Nat.add_comm]
     | true=>simp
end
theorem l4Shape_n:∀ (n:Nat) (f:Form),f.w≤n→f.w≤2 ^ 36→Tr (fun m=>zds m f) f.shp:=by
 intro n
 induction n with
 | zero=>intro a h;have:=a.w_pos;omega
 | succ n ih =>
   intro f h hb
   have hw:=f.w_kids
   have hlen:=Form.ws_len f.kids
   rw [Form.shp_eq]
   refine Tr.step (fun m=>by rw [zds]) (Tr.bind (zha f) ?_)
   cases zM f with
   | true=>exact Tr.tt rfl Tr.val
   | false =>
   refine Tr.ff rfl ?_
   rw [Bool.not_false,Bool.true_and]
   have key:=zaj f.kids (fun k zs=>∀ g:Nat,g≤k→Tr (fun m=>zbE m f (g:Int) (k:Int)) (Form.kP (pdAt f.kids k) zs&&decide (g+cntD zs≤1))) ?_ ?_ 0 (Nat.zero_le _) 0 (Nat.le_refl _)
   ·simpa [pdAt] using key
   ·intro g _
    refine Tr.step (fun m=>by rw [zbE,zad,cond_false]) (Tr.of fun m=>?_)
    rw [Form.kP,cntD,Bool.true_and];congr 1
    rw [Bool.eq_iff_iff,decide_eq_true_iff,decide_eq_true_iff];omega
   ·intro k x zs hk hx hd ihk g hg
    have hm:=Form.ws_mem (List.mem_of_getElem? hx)
    rw [pd_succ hx] at ihk
    refine Tr.step (fun m=>by rw [zbE,ltN hk,cond_true,zL hx,Option.bind_some,zcj]) (Tr.bind (zha x) ?_)
    rw [Form.kP,cntD]
    cases hxd:zM x with
    | true =>
      rw [hxd] at ihk
      refine Tr.tt rfl ?_
      rw [cond_true]
      cases k with
      | zero=>exact Tr.tt rfl Tr.val
      | succ j =>
        have hj:f.kids[j]?=some f.kids[j]:=List.getElem?_eq_getElem (by omega)
        refine Tr.ff (decide_eq_false (by omega)) (Tr.eq (fun m=>by rw [zaM (by omega),show ((j+1:Nat):Int)-1=(j:Int) by omega,zL hj,Option.bind_some]) (Tr.bind (zha _) ?_))
        rw [pd_succ hj]
        cases zM f.kids[j] with
        | true=>exact Tr.tt rfl Tr.val
        | false =>
          have:=ihk (g+1) (by omega)
          rw [Nat.add_assoc g 1] at this
          exact Tr.ff rfl (Tr.eq (fun m=>by rw [zaM (by omega),zcj]) this)
    | false =>
      rw [hxd] at ihk
      refine Tr.ff rfl (Tr.eq (fun m=>by rw [Option.bind_some]) (Tr.bind (ih x (by omega) (by omega)) ?_))
      rw [cond_false,cond_false,Nat.zero_add]
      cases x.shp with
      | false=>exact Tr.tt rfl Tr.val
      | true=>exact Tr.ff rfl (by simpa using ihk g (by omega))
end Go.Abs
end
section
set_option linter.unusedVariables false
set_option linter.unusedSimpArgs false
namespace Go.Abs
noncomputable def zem (lits:List Form) (f:Form):Bool:=decide (f.kind=1)&&(!decide (f.name=dotsN)&&(!decide (f.name=zgd)&&!inF lits f))
theorem dec_ne {α:Type} (a b:α) [DecidableEq α]:decide (a≠b)=!decide (a=b):=by
 by_cases h:a=b
 ·rw [decide_eq_true h,decide_eq_false (fun hh=>hh h)];rfl
 ·rw [decide_eq_false h,decide_eq_true h];rfl
theorem isVar_tr (f:Form) (lits:List Form):Tr (fun m=>zf3 m f lits) (zem lits f):=by
 refine Tr.eq (fun m=>by unfold zf3;rw [dec_ne,dec_ne]) ?_
 unfold zem
 cases decide (f.kind=1) with
 | false=>exact Tr.ff rfl Tr.val
 | true =>
 refine Tr.tt rfl ?_
 cases decide (f.name=dotsN) with
 | true=>exact Tr.ff rfl Tr.val
 | false =>
 refine Tr.tt rfl ?_
 cases decide (f.name=zgd) with
 | true=>exact Tr.ff rfl Tr.val
 | false=>exact Tr.tt rfl (Tr.bind (isIn_tr _ _) Tr.val)
theorem l4Var_tr (f:Form) (lits:List Form):Tr (fun m=>zfk m f lits) (zem lits f):=by
 refine Tr.eq (fun m=>by unfold zfk;rw [dec_ne,dec_ne]) ?_
 unfold zem
 cases decide (f.kind=1) with
 | false=>exact Tr.ff rfl Tr.val
 | true =>
 refine Tr.tt rfl ?_
 cases decide (f.name=dotsN) with
 | true=>exact Tr.ff rfl Tr.val
 | false =>
 refine Tr.tt rfl ?_
 cases decide (f.name=zgd) with
 | true=>exact Tr.ff rfl Tr.val
 | false=>exact Tr.tt rfl (Tr.bind (l4In_tr _ _) Tr.val)
mutual
noncomputable def Form.vd (lits:List Form):Nat→Form→List (Form × Int)
 | v,.mk k nm n sc kids=>(bif zem lits (.mk k nm n sc kids) then [((Form.mk k nm n sc kids),(v:Int))] else [])++Form.kV lits v kids
noncomputable def Form.kV (lits:List Form):Nat→List Form→List (Form × Int)
 | _,[]=>[]
 | v,x::xs=>(bif zcq xs then x.vd lits (v+1) else x.vd lits v)++Form.kV lits v xs
end
mutual
noncomputable def Form.vs (lits:List Form):Form→List Form
 | .mk k nm n sc kids=>(bif zem lits (.mk k nm n sc kids) then [(Form.mk k nm n sc kids)] else [])++Form.kVs lits kids
noncomputable def Form.kVs (lits:List Form):List Form→List Form
 | []=>[]
 | x::xs=>x.vs lits++Form.kVs lits xs
end
theorem Form.vd_eq (lits:List Form) (v:Nat) (f:Form):f.vd lits v=(bif zem lits f then [(f,(v:Int))] else [])++Form.kV lits v f.kids:=by obtain ⟨a,b,c,d,e⟩:=f;rw [Form.vd];rfl
theorem Form.vs_eq (lits:List Form) (f:Form):f.vs lits=(bif zem lits f then [f] else [])++Form.kVs lits f.kids:=by obtain ⟨a,b,c,d,e⟩:=f;rw [Form.vs];rfl
mutual
theorem Form.vd_fst (lits:List Form):∀ (f:Form) (v:Nat),(f.vd lits v).map (·.1)=f.vs lits
 | .mk k nm n sc kids,v=>by
   have:=Form.kV_fst lits kids v
   rw [Form.vd,Form.vs,List.map_append,this]
   cases zem lits (.mk k nm n sc kids)<;>rfl
theorem Form.kV_fst (lits:List Form):∀ (l:List Form) (v:Nat),(Form.kV lits v l).map (·.1)=Form.kVs lits l
 | [],v=>by rw [Form.kV,Form.kVs];rfl
 | x::xs,v=>by
   have h1:=Form.vd_fst lits x v
   have h2:=Form.vd_fst lits x (v+1)
   have h3:=Form.kV_fst lits xs v
   rw [Form.kV,Form.kVs,List.map_append,h3]
   cases zcq xs
   ·rw [cond_false,h1]
   ·rw [cond_true,h2]
end
mutual
theorem Form.vd_len (lits:List Form):∀ (f:Form) (v:Nat),(f.vd lits v).length≤f.w
 | .mk k nm n sc kids,v=>by
   have:=Form.kV_len lits kids v
   rw [Form.vd,Form.w,List.length_append]
   cases zem lits (.mk k nm n sc kids)<;>simp<;>omega
theorem Form.kV_len (lits:List Form):∀ (l:List Form) (v:Nat),(Form.kV lits v l).length≤Form.ws l
 | [],v=>by rw [Form.kV];simp
 | x::xs,v=>by
   have h1:=Form.vd_len lits x v
   have h2:=Form.vd_len lits x (v+1)
   have h3:=Form.kV_len lits xs v
   rw [Form.kV,Form.ws,List.length_append]
   cases zcq xs
   ·rw [cond_false];omega
   ·rw [cond_true];omega
end
theorem set_last {α:Type} (l:List α) (z x:α):(l++[z]).set (l.length:Int).toNat x=l++[x]:=by
 rw [Int.toNat_natCast,List.set_append_right _ _ (Nat.le_refl _),Nat.sub_self];rfl
theorem patternVars_n (lits:List Form):∀ (n:Nat) (f:Form) (v:Nat) (a:List Form) (b:List Int),f.w≤n→f.w+v≤2 ^ 37→a.length+f.w≤2 ^ 37→b.length+f.w≤2 ^ 37 →
  Tr (fun m=>zaT m f lits (v:Int) a b) (a++(f.vd lits v).map (·.1),b++(f.vd lits v).map (·.2)):=by
 intro n
 induction n with
 | zero=>intro a v _ _ h;have:=a.w_pos;omega
 | succ n ih =>
   intro f v a b h hb ha hbb
   have hw:=f.w_kids
   have hlen:=Form.ws_len f.kids
   have loop:∀ k,k≤f.kids.length→∀ (a:List Form) (b:List Int),a.length+Form.ws (f.kids.drop k)≤2 ^ 37→b.length+Form.ws (f.kids.drop k)≤2 ^ 37→Tr (fun m=>zI m f lits (v:Int) (k:Int) a b) (a++(Form.kV lits v (f.kids.drop k)).map (·.1),b++(Form.kV lits v (f.kids.drop k)).map (·.2)):=by
    refine zaj f.kids (fun k zs=>∀ (a:List Form) (b:List Int),a.length+Form.ws zs≤2 ^ 37→b.length+Form.ws zs≤2 ^ 37→Tr (fun m=>zI m f lits (v:Int) (k:Int) a b) (a++(Form.kV lits v zs).map (·.1),b++(Form.kV lits v zs).map (·.2))) ?_ ?_
    ·intro a b _ _
     exact Tr.step (fun m=>by rw [zI,zad,cond_false,Form.kV];simp) Tr.val
    ·intro k x zs hk hx hd ihk a b ha B2
     have hm:=Form.ws_mem (List.mem_of_getElem? hx)
     rw [Form.ws] at ha B2
     have l0:=Form.vd_len lits x v
     have l1:=Form.vd_len lits x (v+1)
     refine Tr.step (fun m=>by rw [zI,ltN hk,cond_true,zL hx,Option.bind_some,zcj]) ?_
     have plain:Tr (fun m=>(zaT m x lits (v:Int) a b).bind fun v19=>zI m f lits (v:Int) ((k+1:Nat):Int) v19.1 v19.2) (a++(x.vd lits v++Form.kV lits v zs).map (·.1),b++(x.vd lits v++Form.kV lits v zs).map (·.2)):=by
      refine Tr.bind (ih x v a b (by omega) (by omega) (by omega) (by omega)) ?_
      have:=ihk (a++(x.vd lits v).map (·.1)) (b++(x.vd lits v).map (·.2)) (by simp;omega) (by simp;omega)
      simpa only [List.map_append,List.append_assoc] using this
     rcases next_get hd with ⟨rfl,hl⟩ | ⟨y,ys,rfl,hy,hl⟩
     ·rw [Form.kV,zcq,cond_false]
      exact Tr.ff (decide_eq_false (by omega)) plain
     ·rw [Form.kV,zcq]
      refine Tr.tt (decide_eq_true (by omega)) (Tr.eq (fun m=>by rw [zL hy,Option.bind_some]) (Tr.bind (named_tr _ _) ?_))
      rw [show (decide (y.kind=1)&&decide (y.name=(⟨#[46,46,46]⟩:ByteArray)))=zM y from rfl]
      cases zM y with
      | false=>exact Tr.ff rfl plain
      | true =>
      refine Tr.tt rfl (Tr.eq (fun m=>by rw [zaM (by omega),zcj]) (Tr.bind (ih x (v+1) a b (by omega) (by omega) (by omega) (by omega)) ?_))
      rw [cond_true]
      have:=ihk (a++(x.vd lits (v+1)).map (·.1)) (b++(x.vd lits (v+1)).map (·.2)) (by simp;omega) (by simp;omega)
      simpa only [List.map_append,List.append_assoc] using this
   have l0:=fun a b h1 h2=>loop 0 (Nat.zero_le _) a b (by rw [List.drop_zero];exact h1) (by rw [List.drop_zero];exact h2)
   simp only [List.drop_zero] at l0
   rw [Form.vd_eq]
   refine Tr.step (fun m=>by rw [zaT]) (Tr.bind (isVar_tr _ _) ?_)
   cases zem lits f with
   | false=>exact Tr.ff rfl (l0 a b (by omega) (by omega))
   | true =>
     refine Tr.tt rfl (Tr.chk (by simp;omega) ?_)
     refine Tr.eq (fun m=>by rw [zL (l:=a++[form0]) (k:=a.length) (x:=form0) (by simp),Option.bind_some,set_last]) (Tr.chk (by simp;omega) ?_)
     have:=l0 (a++[f]) (b++[(v:Int)]) (by simp;omega) (by simp;omega)
     simpa using this
theorem varsOf_tr (f:Form) (lits:List Form) (hb:f.w≤2 ^ 36):Tr (fun m=>zeK m f lits) ((f.vd lits 0).map (·.1),(f.vd lits 0).map (·.2)):=by
 refine Tr.eq (fun m=>by unfold zeK;rfl) (Tr.bind (patternVars_n lits _ f 0 [] [] (Nat.le_refl _) (by omega) (by simp;omega) (by simp;omega)) ?_)
 simpa using Tr.val
theorem l4Vars_n (lits:List Form):∀ (n:Nat) (f:Form) (a:List Form),f.w≤n→a.length+f.w≤2 ^ 37→Tr (fun m=>zcS m a f lits) (a++f.vs lits)∧(f.vs lits).length≤f.w:=by
 intro n
 induction n with
 | zero=>intro a _ h;have:=a.w_pos;omega
 | succ n ih =>
   intro f a h ha
   have hw:=f.w_kids
   have hlenv:(f.vs lits).length≤f.w:=by have:=Form.vd_len lits f 0;rw [← Form.vd_fst lits f 0,List.length_map];exact this
   refine ⟨?_,hlenv⟩
   have loop:∀ k,k≤f.kids.length→∀ (a:List Form),a.length+Form.ws (f.kids.drop k)≤2 ^ 37→Tr (fun m=>zav m f lits a (k:Int)) (a++Form.kVs lits (f.kids.drop k)):=by
    refine zaj f.kids (fun k zs=>∀ (a:List Form),a.length+Form.ws zs≤2 ^ 37→Tr (fun m=>zav m f lits a (k:Int)) (a++Form.kVs lits zs)) ?_ ?_
    ·intro a _
     exact Tr.step (fun m=>by rw [zav,zad,cond_false,Form.kVs];simp) Tr.val
    ·intro k x zs hk hx hd ihk a ha
     have hm:=Form.ws_mem (List.mem_of_getElem? hx)
     rw [Form.ws] at ha
     obtain ⟨i1,i2⟩:=ih x a (by omega) (by omega)
     refine Tr.step (fun m=>by rw [zav,ltN hk,cond_true,zL hx,Option.bind_some,zcj]) (Tr.bind i1 ?_)
     rw [Form.kVs,← List.append_assoc]
     exact ihk _ (by simp;omega)
   have l0:=fun a h1=>loop 0 (Nat.zero_le _) a (by rw [List.drop_zero];exact h1)
   simp only [List.drop_zero] at l0
   rw [Form.vs_eq]
   refine Tr.step (fun m=>by rw [zcS]) (Tr.bind (l4Var_tr _ _) ?_)
   cases zem lits f with
   | false=>exact Tr.ff rfl (l0 a (by omega))
   | true =>
     refine Tr.tt rfl (Tr.chk (by simp;omega) ?_)
     have:=l0 (a++[f]) (by simp;omega)
     simpa using this
theorem l4Depths_n (lits:List Form):∀ (n:Nat) (f:Form) (v:Nat) (b:List Int),f.w≤n→f.w+v≤2 ^ 37→b.length+f.w≤2 ^ 37→Tr (fun m=>za0 m b f lits (v:Int)) (b++(f.vd lits v).map (·.2)):=by
 intro n
 induction n with
 | zero=>intro a v _ h;have:=a.w_pos;omega
 | succ n ih =>
   intro f v b h hb hbb
   have hw:=f.w_kids
   have hlen:=Form.ws_len f.kids
   have loop:∀ k,k≤f.kids.length→∀ (b:List Int),b.length+Form.ws (f.kids.drop k)≤2 ^ 37→Tr (fun m=>zX m f lits (v:Int) b (k:Int)) (b++(Form.kV lits v (f.kids.drop k)).map (·.2)):=by
    refine zaj f.kids (fun k zs=>∀ (b:List Int),b.length+Form.ws zs≤2 ^ 37→Tr (fun m=>zX m f lits (v:Int) b (k:Int)) (b++(Form.kV lits v zs).map (·.2))) ?_ ?_
    ·intro b _
     exact Tr.step (fun m=>by rw [zX,zad,cond_false,Form.kV];simp) Tr.val
    ·intro k x zs hk hx hd ihk b B2
     have hm:=Form.ws_mem (List.mem_of_getElem? hx)
     rw [Form.ws] at B2
     have l0:=Form.vd_len lits x v
     have l1:=Form.vd_len lits x (v+1)
     refine Tr.step (fun m=>by rw [zX,ltN hk,cond_true,zL hx,zcj]) ?_
     have plain:Tr (fun m=>(za0 m b x lits (v:Int)).bind fun v18=>zX m f lits (v:Int) v18 ((k+1:Nat):Int)) (b++(x.vd lits v++Form.kV lits v zs).map (·.2)):=by
      refine Tr.bind (ih x v b (by omega) (by omega) (by omega)) ?_
      have:=ihk (b++(x.vd lits v).map (·.2)) (by simp;omega)
      simpa only [List.map_append,List.append_assoc] using this
     rcases next_get hd with ⟨rfl,hl⟩ | ⟨y,ys,rfl,hy,hl⟩
     ·rw [Form.kV,zcq,cond_false]
      exact Tr.ff (decide_eq_false (by omega)) (Tr.eq (fun m=>by rw [Option.bind_some]) plain)
     ·rw [Form.kV,zcq]
      refine Tr.tt (decide_eq_true (by omega)) (Tr.eq (fun m=>by rw [zL hy,Option.bind_some]) (Tr.bind (zha _) ?_))
      cases zM y with
      | false=>exact Tr.ff rfl (Tr.eq (fun m=>by rw [Option.bind_some]) plain)
      | true =>
      refine Tr.tt rfl (Tr.eq (fun m=>by rw [Option.bind_some,zaM (by omega),zcj]) (Tr.bind (ih x (v+1) b (by omega) (by omega) (by omega)) ?_))
      rw [cond_true]
      have:=ihk (b++(x.vd lits (v+1)).map (·.2)) (by simp;omega)
      simpa only [List.map_append,List.append_assoc] using this
   have l0:=fun b h1=>loop 0 (Nat.zero_le _) b (by rw [List.drop_zero];exact h1)
   simp only [List.drop_zero] at l0
   rw [Form.vd_eq]
   refine Tr.step (fun m=>by rw [za0]) (Tr.bind (l4Var_tr _ _) ?_)
   cases zem lits f with
   | false=>exact Tr.ff rfl (l0 b (by omega))
   | true =>
     refine Tr.tt rfl (Tr.chk (by simp;omega) ?_)
     have:=l0 (b++[(v:Int)]) (by simp;omega)
     simpa using this
end Go.Abs
end
section
set_option linter.unusedVariables false
set_option linter.unusedSimpArgs false
namespace Go.Abs
noncomputable def distF:List Form→List Form→Bool
 | _,[]=>true
 | ps,x::xs=>!inF ps x&&distF (ps++[x]) xs
def dsOk (l:List Int):Bool:=alls (fun d=>!decide (3 < d)) l
noncomputable def patOk (f:Form) (lits:List Form):Bool:=f.valid&&(litOk lits&&(f.shp&&((distF [] (f.vs lits)&&dsOk ((f.vd lits 0).map (·.2)))&&decide (((f.vs lits).length:Int)≤20))))
theorem patLoop_tr (l:List (Form × Int)) (hl:l.length≤2 ^ 37):Tr (fun m=>zao m (l.map (·.1),l.map (·.2)) 0 (l.map (·.1))) ((distF [] (l.map (·.1))&&dsOk (l.map (·.2)))&&decide (((l.map (·.1)).length:Int)≤20)):=by
 have key:=zaj l (fun k zs=>Tr (fun m=>zao m (l.map (·.1),l.map (·.2)) (k:Int) (l.map (·.1))) ((distF ((l.map (·.1)).take k) (zs.map (·.1))&&dsOk (zs.map (·.2)))&&decide (((l.map (·.1)).length:Int)≤20))) ?_ ?_ 0 (Nat.zero_le _)
 ·simpa using key
 ·exact Tr.step (fun m=>by rw [zao,List.length_map,zad,cond_false];simp [distF,dsOk,alls]) Tr.val
 ·intro k x zs hk hx hd ih
  have h1:(l.map (·.1))[k]?=some x.1:=by rw [List.getElem?_map,hx];rfl
  have h2:(l.map (·.2))[k]?=some x.2:=by rw [List.getElem?_map,hx];rfl
  have hk1:k < (l.map (·.1)).length:=by simpa using hk
  rw [zfL h1] at ih
  refine Tr.step (fun m=>by rw [zao,ltN hk1,cond_true,zL h1,Option.bind_some,sub_take (by omega),Option.bind_some]) (Tr.bind (isIn_tr _ _) ?_)
  rw [List.map_cons,List.map_cons,distF,dsOk,alls]
  cases inF ((l.map (·.1)).take k) x.1 with
  | true=>exact Tr.tt rfl Tr.val
  | false =>
  refine Tr.ff rfl (Tr.eq (fun m=>by rw [zL h2,Option.bind_some,zaM (by omega),zcj]) ?_)
  cases decide (3 < x.2) with
  | true =>
    rw [Bool.not_true,Bool.false_and,Bool.and_false]
    exact Tr.tt rfl Tr.val
  | false=>exact Tr.ff rfl (by simpa [dsOk] using ih)
theorem zfg (f:Form) (lits:List Form) (hf:f.fit) (hb:f.w≤2 ^ 36) (hl:Form.fits lits):Tr (fun m=>zc3 m f lits) (patOk f lits):=by
 refine Tr.eq (fun m=>by unfold zc3;rfl) (Tr.bind (ze9 f hf) ?_)
 unfold patOk
 cases f.valid with
 | false=>exact Tr.tt rfl Tr.val
 | true =>
 refine Tr.ff rfl (Tr.bind (implLit_tr lits hl) ?_)
 cases litOk lits with
 | false=>exact Tr.tt rfl Tr.val
 | true =>
 refine Tr.ff rfl (Tr.bind (named_tr _ _) ?_)
 rw [show (decide (f.kind=1)&&decide (f.name=(⟨#[46,46,46]⟩:ByteArray)))=zM f from rfl,Form.shp_dots]
 cases zM f with
 | true=>exact Tr.tt rfl Tr.val
 | false =>
 refine Tr.ff rfl (Tr.bind (dotsOk_tr true f hb) ?_)
 cases f.dotsOk true with
 | false=>exact Tr.tt rfl Tr.val
 | true =>
 refine Tr.ff rfl (Tr.bind (varsOf_tr f lits hb) ?_)
 have:=patLoop_tr (f.vd lits 0) (by have:=Form.vd_len lits f 0;omega)
 rw [← Form.vd_fst lits f 0]
 exact this
theorem l4Is_tr (f:Form) (lits:List Form) (hf:f.fit) (hb:f.w≤2 ^ 36) (hl:Form.fits lits) (hlb:Form.ws lits≤2 ^ 36):Tr (fun m=>zgr m f lits) (patOk f lits):=by
 refine Tr.eq (fun m=>by unfold zgr;rfl) (Tr.bind (ze0 f hf hb) ?_)
 unfold patOk
 cases f.valid with
 | false=>exact Tr.tt rfl Tr.val
 | true =>
 refine Tr.ff rfl (Tr.bind (specLit_tr lits hl hlb) ?_)
 cases litOk lits with
 | false=>exact Tr.tt rfl Tr.val
 | true =>
 refine Tr.ff rfl (Tr.bind (l4Shape_n _ f (Nat.le_refl _) hb) ?_)
 cases f.shp with
 | false=>exact Tr.tt rfl Tr.val
 | true =>
 refine Tr.ff rfl (Tr.bind (l4Vars_n lits _ f [] (Nat.le_refl _) (by simp;omega)).1 ?_)
 rw [List.nil_append]
 have key:=zaj (f.vs lits) (fun k zs=>Tr (fun m=>zcW m f lits (k:Int) (f.vs lits)) ((distF ((f.vs lits).take k) zs&&dsOk ((f.vd lits 0).map (·.2)))&&decide (((f.vs lits).length:Int)≤20))) ?_ ?_ 0 (Nat.zero_le _)
 ·simpa using key
 ·refine Tr.step (fun m=>by rw [zcW,zad,cond_false]) ?_
  refine Tr.bind (l4Depths_n lits _ f 0 [] (Nat.le_refl _) (by omega) (by simp;omega)) ?_
  rw [List.nil_append,distF,Bool.true_and]
  have inner:=zaj ((f.vd lits 0).map (·.2)) (fun j ws=>Tr (fun m=>zcV m (f.vs lits) ((f.vd lits 0).map (·.2)) (j:Int)) (dsOk ws&&decide (((f.vs lits).length:Int)≤20))) ?_ ?_ 0 (Nat.zero_le _)
  ·simpa using inner
  ·exact Tr.step (fun m=>by rw [zcV,zad,cond_false];simp [dsOk,alls]) Tr.val
  ·intro j y ws hj hy hdj ihj
   refine Tr.step (fun m=>by rw [zcV,ltN hj,cond_true,zL hy,Option.bind_some,zcj]) ?_
   rw [dsOk,alls]
   cases decide (3 < y) with
   | true=>exact Tr.tt rfl Tr.val
   | false=>exact Tr.ff rfl (by simpa [dsOk] using ihj)
 ·intro k x zs hk hx hd ih
  rw [zfL hx] at ih
  refine Tr.step (fun m=>by rw [zcW,ltN hk,cond_true,sub_take (by omega),Option.bind_some,zL hx,Option.bind_some,zcj]) (Tr.bind (l4In_tr _ _) ?_)
  rw [distF]
  cases inF ((f.vs lits).take k) x with
  | true=>exact Tr.tt rfl Tr.val
  | false=>exact Tr.ff rfl (by simpa using ih)
mutual
theorem Form.vd_nn (lits:List Form):∀ (f:Form) (v:Nat),∀ x∈f.vd lits v,0≤x.2
 | .mk k nm n sc kids,v,x,hx=>by
   have:=Form.kV_nn lits kids v x
   rw [Form.vd,List.mem_append] at hx
   rcases hx with hx | hx
   ·cases h:zem lits (.mk k nm n sc kids) with
    | true=>rw [h,cond_true,List.mem_singleton] at hx;subst hx;exact Int.natCast_nonneg v
    | false=>rw [h,cond_false] at hx;cases hx
   ·exact this hx
theorem Form.kV_nn (lits:List Form):∀ (l:List Form) (v:Nat),∀ x∈Form.kV lits v l,0≤x.2
 | [],v,x,hx=>by rw [Form.kV] at hx;cases hx
 | y::ys,v,x,hx=>by
   have h1:=Form.vd_nn lits y v x
   have h2:=Form.vd_nn lits y (v+1) x
   have h3:=Form.kV_nn lits ys v x
   rw [Form.kV,List.mem_append] at hx
   rcases hx with hx | hx
   ·cases h:zcq ys with
    | true=>rw [h,cond_true] at hx;exact h2 hx
    | false=>rw [h,cond_false] at hx;exact h1 hx
   ·exact h3 hx
end
theorem szFormS_tq (l:List Form) (v:Int) (hl:l.length≤9223372036854775807) (hf:Form.fits l) (h0:0≤v) (h1:v≤2 ^ 40):TQ (fun m=>zcY m l v) (Left v (Form.wts l)):=by
 refine TQ.step (fun m=>by rw [zcY,zaM (by omega)]) ?_
 refine TQ.cond (fun _=>TQ.val (.inl rfl)) (fun h=>?_)
 replace h:0≤v-(l.length:Int):=by simpa using h
 have key:=zaj l (fun k zs=>∀ g:Int,0≤g→g≤2 ^ 40→TQ (fun m=>zaO m l g (k:Int)) (fun r=>r=-1∨(0≤r∧r=g-Form.wts zs+zs.length))) ?_ ?_ 0 (Nat.zero_le _) _ h (by omega)
 ·refine TQ.mono (by simpa using key) (fun r hr=>?_)
  rcases hr with hr | ⟨hr,he⟩
  ·exact .inl hr
  ·exact .inr ⟨hr,by rw [he];omega⟩
 ·intro g hg _
  exact TQ.step (fun m=>by rw [zaO,zad,cond_false]) (TQ.val (.inr ⟨hg,by simp [Form.wts]⟩))
 ·intro k x zs hk hx hd ihk g hg hg1
  refine TQ.step (fun m=>by rw [zaO,ltN hk,cond_true,zL hx,Option.bind_some,zcj]) ?_
  have hm:=List.mem_of_getElem? hx
  refine TQ.bind (szForm_tq x g (Form.fits_mem hf hm) hg hg1) (fun r hr=>?_)
  rcases hr with rfl | ⟨hr,rfl⟩
  ·exact TQ.cond (fun _=>TQ.val (.inl rfl)) (fun h=>absurd h (by decide))
  refine TQ.cond (fun h=>absurd h (by rw [geZ hr];decide)) (fun _=>?_)
  refine TQ.mono (ihk _ hr (by omega)) (fun r hr=>?_)
  rcases hr with hr | ⟨hr,he⟩
  ·exact .inl hr
  ·exact .inr ⟨hr,by rw [he,Form.wts,List.length_cons];omega⟩
theorem toFormS_tr (l:List Form) (hb:Form.ws l≤2 ^ 36):Tr (fun m=>zaS m l) l:=by
 have hl:=Form.ws_len l
 refine Tr.step (fun m=>by rw [zaS]) (Tr.chk (by simp;omega) ?_)
 have:=loop_copy (xs:=l) (z:=form0) (f:=fun x=>x) (L:=fun m k acc=>zaw m l k acc) (E:=fun m a=>zaf m a) (fun m k acc=>by rw [zaw]) (fun a ha=>toForm_tr a (by have:=Form.ws_mem ha;omega))
 simpa using this
theorem eqFormS_tr (a b:List Form):Tr (fun m=>zct m a b) (same a b):=by
 refine Tr.step (fun m=>by rw [zct]) ?_
 by_cases hl:a.length=b.length
 ·exact Tr.ff (lenE hl) (loop_eq hl (L:=fun m k=>zbF m a b k) (E:=fun m x y=>zbm m x y) (fun m k=>by rw [zbF]) (fun x _ y _=>eqForm_tr x y))
 ·rw [zgE hl];exact Tr.tt (lenB hl) Tr.val
end Go.Abs
end
end
section
set_option linter.unusedVariables false
set_option linter.unusedSimpArgs false
namespace Go.Abs
theorem l1Copy_tr:∀ (n:Nat) (f:Form),f.w≤n→f.w≤2 ^ 36→Tr (fun m=>zdf m f) f:=by
 intro n
 induction n with
 | zero=>intro f h _;have:=f.w_kids;omega
 | succ n ih =>
   intro f h hb
   have hw:=f.w_kids
   have hl:=Form.ws_len f.kids
   refine Tr.step (fun m=>by rw [zdf]) ?_
   refine Tr.chk (by simp;omega) ?_
   have key:=zaj f.kids (fun k ys=>∀ acc:List Form,acc.length=k→Tr (fun m=>zcf m f (k:Int) acc) (Form.mk f.kind f.name f.n f.scopes (acc++ys))) ?_ ?_ 0 (Nat.zero_le _) [] rfl
   ·rw [List.drop_zero,List.nil_append] at key
    obtain ⟨a,b,c,d,e⟩:=f
    exact key
   ·intro acc _
    refine Tr.step (fun m=>by rw [zcf,zad]) ?_
    rw [List.append_nil];exact Tr.val
   ·intro k x xs hk hx hd ihk acc hacc
    have hmem:x∈f.kids:=List.mem_of_getElem? hx
    have hxw:=Form.ws_mem hmem
    refine Tr.step (fun m=>by rw [zcf,ltN hk,zL hx,zcj]) ?_
    refine Tr.bind (ih x (by omega) (by omega)) ?_
    refine Tr.chk (by simp;omega) ?_
    have:=ihk (acc++[x]) (by simp;exact hacc)
    rwa [List.append_assoc] at this
end Go.Abs
end
section
set_option linter.unusedVariables false
namespace Go.Abs
mutual
def Form.fitB:Form→Bool
 | .mk _ name _ scopes kids=>decide (name.size≤100)&&(decide (scopes.length≤100)&&(decide (kids.length≤100)&&Form.fitBs kids))
def Form.fitBs:List Form→Bool
 | []=>true
 | f::fs=>f.fitB&&Form.fitBs fs
end
end Go.Abs
end
section
set_option linter.unusedVariables false
set_option linter.unusedSimpArgs false
namespace Go.Abs
theorem TQ.same {α:Type} {F:Nat→Option α} {v:α} (h:Tr F v):TQ F (fun r=>r=v):=⟨v,h,rfl⟩
theorem TQ.tr {α:Type} {F:Nat→Option α} {v:α} (h:TQ F (fun r=>r=v)):Tr F v:=by obtain ⟨r,h,rfl⟩:=h;exact h
theorem TQ.at {α β:Type} {l:List α} {i:Int} {x:α} {g:α→Nat→Option β} {R:β→Prop} (hx:Abs.idx l i=some x) (h:TQ (fun m=>g x m) R):TQ (fun m=>(Abs.idx l i).bind fun y=>g y m) R:=by
 obtain ⟨w,hw,hr⟩:=h
 exact ⟨w,Tr.idx hx hw,hr⟩
structure Dr (n:Nat) (f:Form):Prop where
 w:f.w≤n
 fit:f.fit
theorem Dr.mono {n k:Nat} {f:Form} (h:Dr n f) (hk:n≤k):Dr k f:=⟨Nat.le_trans h.w hk,h.fit⟩
end Go.Abs
end
section
set_option linter.unusedVariables false
set_option linter.unusedSimpArgs false
namespace Go.Abs
theorem loop_app {α β γ:Type} {xs:List α} {c:Nat} {f:α→β} {L:Nat→Int→List β→Option γ} {E:Nat→α→Option β} {fin:List β→γ}
  (h0:∀ m k acc,L (m+1) k acc=bif decide (k < (xs.length:Int)) then (idx xs k).bind fun a=>(E m a).bind fun v=>chk (decide ((acc.length+[v].length)*c≤140737488355328)) (L m (k+1) (acc++[v])) else some (fin acc))
  (hE:∀ a∈xs,Tr (fun m=>E m a) (f a)) (acc0:List β) (hb:(acc0.length+xs.length)*c≤140737488355328):Tr (fun m=>L m 0 acc0) (fin (acc0++xs.map f)):=by
 have key:=zaj xs (fun k zs=>∀ acc:List β,(acc.length+zs.length)*c≤140737488355328→Tr (fun m=>L m (k:Int) acc) (fin (acc++zs.map f))) ?_ ?_ 0 (Nat.zero_le _) acc0 (by simpa using hb)
 ·simpa using key
 ·intro acc _
  refine Tr.step (fun m=>by rw [h0,zad,cond_false]) ?_
  rw [List.map_nil,List.append_nil];exact Tr.val
 ·intro k x zs hk hx hd ih acc hc
  refine Tr.step (fun m=>by rw [h0,ltN hk,cond_true,zL hx,Option.bind_some,zcj]) ?_
  refine Tr.bind (hE x (List.mem_of_getElem? hx)) ?_
  have C1:(acc.length+1)*c≤140737488355328:=Nat.le_trans (Nat.mul_le_mul_right c (by simp)) hc
  refine Tr.chk (decide_eq_true (by simpa using C1)) ?_
  have:=ih (acc++[f x]) (by
   refine Nat.le_trans (Nat.mul_le_mul_right c ?_) hc
   simp;omega)
  rwa [List.append_assoc] at this
theorem clone_tr (l:List Int) (h:l.length≤2 ^ 36):Tr (fun m=>zb4 m l) l :=
 Tr.eq (fun m=>by unfold zb4;rfl) (Tr.chk (decide_eq_true (by simp;omega)) Tr.val)
theorem copyForm_n:∀ (n:Nat) (f:Form),f.w≤n→f.w≤2 ^ 36→Tr (fun m=>zaD m f) f:=by
 intro n
 induction n with
 | zero=>intro f h _;have:=f.w_kids;omega
 | succ n ih =>
   intro f h hb
   have hw:=f.w_kids
   have hl:=Form.ws_len f.kids
   refine Tr.step (fun m=>by rw [zaD]) (Tr.bind (clone_tr _ (by omega)) ?_)
   have:=loop_app (xs:=f.kids) (c:=80) (f:=fun x=>x) (L:=fun m k acc=>zaU m f f.scopes k acc) (E:=fun m a=>zaD m a) (fin:=fun g=>Form.mk f.kind f.name f.n f.scopes g)
    (fun m k acc=>by rw [zaU]) (fun a ha=>ih a (by have:=Form.ws_mem ha;omega) (by have:=Form.ws_mem ha;omega)) [] (by simp;omega)
   rw [List.map_id',List.nil_append] at this
   obtain ⟨a,b,c,d,e⟩:=f
   exact this
theorem copyForm_tr (f:Form) (h:f.w≤2 ^ 36):Tr (fun m=>zaD m f) f:=copyForm_n _ f (Nat.le_refl _) h
theorem Form.vs_w (lits:List Form) (f:Form):∀ x∈f.vs lits,x.w≤f.w:=by
 have key:∀ (n:Nat) (f:Form),f.w≤n→∀ x∈f.vs lits,x.w≤f.w:=by
  intro n
  induction n with
  | zero=>intro f h;have:=f.w_kids;omega
  | succ n ih =>
    intro f h x hx
    have hw:=f.w_kids
    rw [Form.vs_eq] at hx
    rcases List.mem_append.1 hx with hx | hx
    ·cases hv:zem lits f with
     | true=>rw [hv,cond_true,List.mem_singleton] at hx;subst hx;exact Nat.le_refl _
     | false=>rw [hv,cond_false] at hx;cases hx
    ·have k2:∀ l:List Form,Form.ws l≤n→x∈Form.kVs lits l→x.w≤Form.ws l:=by
      intro l
      induction l with
      | nil=>intro _ hx;rw [Form.kVs] at hx;cases hx
      | cons y l ihl =>
        intro hl hx
        rw [Form.ws] at hl ⊢
        rw [Form.kVs] at hx
        rcases List.mem_append.1 hx with hx | hx
        ·have:=ih y (by omega) x hx;omega
        ·have:=ihl (by omega) hx;omega
     have:=k2 f.kids (by omega) hx
     omega
 exact key _ f (Nat.le_refl _)
theorem l4Vars_nil (f:Form) (lits:List Form) (hb:f.w≤2 ^ 36):Tr (fun m=>zcS m [] f lits) (f.vs lits):=by
 have:=(l4Vars_n lits _ f [] (Nat.le_refl _) (by simp;omega)).1
 simpa using this
theorem l4Depths_nil (f:Form) (lits:List Form) (hb:f.w≤2 ^ 36):Tr (fun m=>za0 m [] f lits 0) ((f.vd lits 0).map (·.2)):=by
 have:=l4Depths_n lits _ f 0 [] (Nat.le_refl _) (by omega) (by simp;omega)
 simpa using this
mutual
noncomputable def Form.part (x:Form):Form→Bool
 | .mk a b c d kids=>same (Form.mk a b c d kids) x||Form.parts x kids
noncomputable def Form.parts (x:Form):List Form→Bool
 | []=>false
 | y::ys=>Form.part x y||Form.parts x ys
end
theorem Form.part_eq (x f:Form):Form.part x f=(same f x||Form.parts x f.kids):=by obtain ⟨a,b,c,d,e⟩:=f;rw [Form.part];rfl
theorem parts_mem {x:Form}:∀ {l:List Form} {y:Form},y∈l→Form.part x y=true→Form.parts x l=true
 | z::l,y,hy,h=>by
   rw [Form.parts,Bool.or_eq_true]
   rcases List.mem_cons.1 hy with rfl | hy
   ·exact .inl h
   ·exact .inr (parts_mem hy h)
end Go.Abs
end
section
set_option linter.unusedVariables false
set_option linter.unusedSimpArgs false
namespace Go.Abs
theorem l4CopyHit_n:∀ (n:Nat) (h:Hit),h.w≤n→h.w≤2 ^ 36→Tr (fun m=>zbX m h) h:=by
 intro n
 induction n with
 | zero=>intro h hw;have:=h.w_parts;omega
 | succ n ih =>
   intro h hw hb
   have hp:=h.w_parts
   have hl:=Hit.ws_len h.many
   refine Tr.step (fun m=>by rw [zbX]) (Tr.bind (l1Copy_tr _ h.name (Nat.le_refl _) (by omega)) (Tr.bind (l1Copy_tr _ h.one (Nat.le_refl _) (by omega)) ?_))
   have:=loop_app (xs:=h.many) (c:=192) (f:=fun x=>x) (L:=fun m k acc=>zbY m h h.name h.one k acc) (E:=fun m a=>zbX m a) (fin:=fun g=>Hit.mk h.name h.depth h.one g)
    (fun m k acc=>by rw [zbY]) (fun a ha=>ih a (by have:=Hit.ws_mem ha;omega) (by have:=Hit.ws_mem ha;omega)) [] (by simp;omega)
   rw [List.map_id',List.nil_append] at this
   obtain ⟨a,b,c,d⟩:=h
   exact this
theorem l4Copy_tr (l:List Hit) (hb:Hit.ws l≤2 ^ 36):Tr (fun m=>zfq m l) l:=by
 have hl:=Hit.ws_len l
 refine Tr.eq (fun m=>by unfold zfq;rfl) ?_
 have:=loop_app (xs:=l) (c:=192) (f:=fun x=>x) (L:=fun m k acc=>zcH m l acc k) (E:=fun m a=>zbX m a) (fin:=fun g=>g)
  (fun m k acc=>by rw [zcH]) (fun a ha=>l4CopyHit_n _ a (Nat.le_refl _) (by have:=Hit.ws_mem ha;omega)) [] (by simp;omega)
 simpa using this
noncomputable def hAt (l:List Hit) (f:Form):Int:=fnd (fun x=>same x.name f) l 0
theorem fnd_at {α:Type} {D:α→Bool}:∀ {l:List α} {k:Nat},(fnd D l k=-1∧∀ x∈l,D x=false)∨∃ i x,fnd D l k=((k+i:Nat):Int)∧l[i]?=some x∧D x=true∧∀ y∈l.take i,D y=false
 | [],k=>.inl ⟨rfl,fun x hx=>by cases hx⟩
 | z::l,k=>by
   rw [fnd]
   cases h:D z with
   | true=>exact .inr ⟨0,z,rfl,rfl,h,fun y hy=>by cases hy⟩
   | false =>
     rw [cond_false]
     rcases fnd_at (D:=D) (l:=l) (k:=k+1) with ⟨h1,h2⟩ | ⟨i,x,h1,h2,h3,h4⟩
     ·exact .inl ⟨h1,fun x hx=>by
       rcases List.mem_cons.1 hx with rfl | hx
       ·exact h
       ·exact h2 x hx⟩
     ·exact .inr ⟨i+1,x,by rw [h1];congr 1;omega,by simpa using h2,h3,fun y hy=>by
       rw [List.take_succ_cons] at hy
       rcases List.mem_cons.1 hy with rfl | hy
       ·exact h
       ·exact h4 y hy⟩
def hit0:Hit:=Hit.mk (Form.mk 0 (⟨#[]⟩:ByteArray) 0 ([]:List Int) ([]:List Form)) 0 (Form.mk 0 (⟨#[]⟩:ByteArray) 0 ([]:List Int) ([]:List Form)) ([]:List Hit)
end Go.Abs
end
