/- A part of the proof: what the functions that the law calls answer, as pure values. -/
import Derived.Test.YtcllpfmjggkpnaaGreatKcd1b73107f87
import Derived.Test.YtcllpfmjggkpnaaGreatK901cfc26645b
import Derived.Test.YtcllpfmjggkpnaaGreatKa8136476e481
set_option linter.unusedSimpArgs false
set_option linter.unusedVariables false
section
set_option linter.unusedVariables false
namespace Go.Abs
def Tr {α:Type} (F:Nat→Option α) (v:α):Prop:=∃ n,∀ m,n≤m→F m=some v
theorem Tr.val {α:Type} {v:α}:Tr (fun _=>some v) v:=⟨0,fun _ _=>rfl⟩
theorem Tr.of {α:Type} {F:Nat→Option α} {v:α} (h:∀ m,F m=some v):Tr F v:=⟨0,fun m _=>h m⟩
theorem Tr.bind {α β:Type} {f:Nat→Option α} {g:α→Nat→Option β} {v:α} {w:β} (h1:Tr f v) (h2:Tr (fun m=>g v m) w):Tr (fun m=>(f m).bind fun x=>g x m) w:=by
 obtain ⟨n1,h1⟩:=h1
 obtain ⟨n2,h2⟩:=h2
 refine ⟨n1+n2,fun m hm=>?_⟩
 show (f m).bind _=_
 rw [h1 m (by omega)]
 exact h2 m (by omega)
theorem Tr.step {α:Type} {F G:Nat→Option α} {v:α} (h:∀ m,F (m+1)=G m) (hg:Tr G v):Tr F v:=by
 obtain ⟨n,hg⟩:=hg
 refine ⟨n+1,fun m hm=>?_⟩
 obtain ⟨k,rfl⟩:∃ k,m=k+1:=⟨m-1,by omega⟩
 rw [h,hg k (by omega)]
theorem Tr.eq {α:Type} {F G:Nat→Option α} {v:α} (h:∀ m,F m=G m) (hg:Tr G v):Tr F v:=by
 obtain ⟨n,hg⟩:=hg
 exact ⟨n,fun m hm=>by rw [h,hg m hm]⟩
theorem Tr.tt {α:Type} {F G:Nat→Option α} {b:Bool} {v:α} (hb:b=true) (h:Tr F v):Tr (fun m=>bif b then F m else G m) v:=by subst hb;exact h
theorem Tr.ff {α:Type} {F G:Nat→Option α} {b:Bool} {v:α} (hb:b=false) (h:Tr G v):Tr (fun m=>bif b then F m else G m) v:=by subst hb;exact h
theorem Tr.chk {α:Type} {F:Nat→Option α} {b:Bool} {v:α} (hb:b=true) (h:Tr F v):Tr (fun m=>Abs.chk b (F m)) v:=by subst hb;exact h
theorem Tr.idx {α β:Type} {l:List α} {i:Int} {x:α} {g:α→Nat→Option β} {w:β} (hx:idx l i=some x) (h:Tr (fun m=>g x m) w):Tr (fun m=>(Abs.idx l i).bind fun y=>g y m) w:=by
 rw [hx];exact h
theorem Tr.get {α:Type} {F:Nat→Option α} {v:α} (h:Tr F v):∃ n,F n=some v:=by
 obtain ⟨n,h⟩:=h;exact ⟨n,h n (Nat.le_refl n)⟩
theorem zE {α:Type} {l:List α} {k:Nat} {x:α} (h:l[k]?=some x):idx l (k:Int)=some x:=by
 unfold idx
 simp [h]
theorem idx_int {α:Type} {l:List α} {i:Int} (h0:0≤i) (h1:i < l.length):∃ x,idx l i=some x∧x∈l:=by
 obtain ⟨k,rfl⟩:=Int.eq_ofNat_of_zero_le h0
 have hk:k < l.length:=by omega
 exact ⟨l[k],zE (List.getElem?_eq_getElem hk),List.getElem_mem hk⟩
theorem zak {α:Type} (l:List α) (motive:Nat→List α→Prop) (nil:motive l.length [])
  (cons:∀ k x xs,k < l.length→l[k]?=some x→l.drop k=x::xs→motive (k+1) xs→motive k (x::xs)):∀ k,k≤l.length→motive k (l.drop k):=by
 have key:∀ n k,l.length-k=n→k≤l.length→motive k (l.drop k):=by
  intro n
  induction n with
  | zero =>
    intro k hk hle
    have:k=l.length:=by omega
    subst this
    rw [List.drop_length];exact nil
  | succ n ih =>
    intro k hk hle
    have hlt:k < l.length:=by omega
    have:=ih (k+1) (by omega) (by omega)
    rw [List.drop_eq_getElem_cons hlt]
    exact cons k _ _ hlt (List.getElem?_eq_getElem hlt) (List.drop_eq_getElem_cons hlt) this
 exact fun k hk=>key _ k rfl hk
theorem ltN {k n:Nat} (h:k < n):decide ((k:Int) < (n:Int))=true:=by simpa using h
theorem geN {k n:Nat} (h:¬ k < n):decide ((k:Int) < (n:Int))=false:=by simpa using h
theorem z6 {n:Nat}:decide ((n:Int) < (n:Int))=false:=by simp
theorem zbp (k:Nat):(k:Int)+1=((k+1:Nat):Int):=by simp
theorem zaG {n:Int} (h:-9223372036854775808≤n∧n≤9223372036854775807):w64 n=n:=IntWalk.i64_in n (by omega)
def TQ {α:Type} (F:Nat→Option α) (Q:α→Prop):Prop:=∃ r,Tr F r∧Q r
theorem TQ.val {α:Type} {v:α} {Q:α→Prop} (h:Q v):TQ (fun _=>some v) Q:=⟨v,Tr.val,h⟩
theorem TQ.bind {α β:Type} {f:Nat→Option α} {g:α→Nat→Option β} {Q:α→Prop} {R:β→Prop} (h1:TQ f Q) (h2:∀ v,Q v→TQ (fun m=>g v m) R):TQ (fun m=>(f m).bind fun x=>g x m) R:=by
 obtain ⟨v,h1,hq⟩:=h1
 obtain ⟨w,h2,hr⟩:=h2 v hq
 exact ⟨w,h1.bind h2,hr⟩
theorem TQ.ev {α β:Type} {f:Nat→Option α} {g:α→Nat→Option β} {v:α} {R:β→Prop} (h1:Tr f v) (h2:TQ (fun m=>g v m) R):TQ (fun m=>(f m).bind fun x=>g x m) R:=by
 obtain ⟨w,h2,hr⟩:=h2
 exact ⟨w,h1.bind h2,hr⟩
theorem TQ.step {α:Type} {F G:Nat→Option α} {Q:α→Prop} (h:∀ m,F (m+1)=G m) (hg:TQ G Q):TQ F Q:=by
 obtain ⟨v,h1,hq⟩:=hg
 exact ⟨v,Tr.step h h1,hq⟩
theorem TQ.eq {α:Type} {F G:Nat→Option α} {Q:α→Prop} (h:∀ m,F m=G m) (hg:TQ G Q):TQ F Q:=by
 obtain ⟨v,h1,hq⟩:=hg
 exact ⟨v,Tr.eq h h1,hq⟩
theorem TQ.cond {α:Type} {F G:Nat→Option α} {b:Bool} {Q:α→Prop} (h1:b=true→TQ F Q) (h2:b=false→TQ G Q):TQ (fun m=>bif b then F m else G m) Q:=by
 cases b
 ·exact h2 rfl
 ·exact h1 rfl
theorem TQ.chk {α:Type} {F:Nat→Option α} {b:Bool} {Q:α→Prop} (hb:b=true) (h:TQ F Q):TQ (fun m=>Abs.chk b (F m)) Q:=by subst hb;exact h
theorem TQ.idx {α β:Type} {l:List α} {i:Int} {g:α→Nat→Option β} {R:β→Prop} (h0:0≤i) (h1:i < l.length) (h:∀ x,x∈l→TQ (fun m=>g x m) R):TQ (fun m=>(Abs.idx l i).bind fun y=>g y m) R:=by
 obtain ⟨x,hx,hm⟩:=idx_int h0 h1
 obtain ⟨w,hw,hr⟩:=h x hm
 exact ⟨w,Tr.idx hx hw,hr⟩
theorem TQ.mono {α:Type} {F:Nat→Option α} {Q R:α→Prop} (h:TQ F Q) (hq:∀ v,Q v→R v):TQ F R:=by
 obtain ⟨v,h1,h2⟩:=h;exact ⟨v,h1,hq v h2⟩
theorem bool_ff {b:Bool} (h:(!b)=false):b=true:=by simpa using h
mutual
def Form.w:Form→Nat
 | .mk _ _ _ scopes kids=>1+scopes.length+Form.ws kids
def Form.ws:List Form→Nat
 | []=>0
 | f::fs=>1+f.w+Form.ws fs
end
mutual
def Core.w:Core→Nat
 | .mk _ _ _ _ ids data kids=>1+ids.length+data.w+Core.ws kids
def Core.ws:List Core→Nat
 | []=>0
 | f::fs=>1+f.w+Core.ws fs
end
theorem Form.ws_len:∀ (l:List Form),l.length≤Form.ws l
 | []=>by simp
 | f::fs=>by have:=Form.ws_len fs;rw [Form.ws,List.length_cons];omega
theorem Core.ws_len:∀ (l:List Core),l.length≤Core.ws l
 | []=>by simp
 | f::fs=>by have:=Core.ws_len fs;rw [Core.ws,List.length_cons];omega
theorem Form.ws_mem:∀ {l:List Form} {x:Form},x∈l→x.w < Form.ws l
 | f::fs,x,h=>by
   rw [Form.ws]
   rcases List.mem_cons.1 h with rfl | h
   ·omega
   ·have:=Form.ws_mem h;omega
theorem Core.ws_mem:∀ {l:List Core} {x:Core},x∈l→x.w < Core.ws l
 | f::fs,x,h=>by
   rw [Core.ws]
   rcases List.mem_cons.1 h with rfl | h
   ·omega
   ·have:=Core.ws_mem h;omega
theorem Form.ws_append (a b:List Form):Form.ws (a++b)=Form.ws a+Form.ws b:=by
 induction a with
 | nil=>simp [Form.ws]
 | cons x a ih=>rw [List.cons_append,Form.ws,Form.ws,ih];omega
theorem Core.ws_append (a b:List Core):Core.ws (a++b)=Core.ws a+Core.ws b:=by
 induction a with
 | nil=>simp [Core.ws]
 | cons x a ih=>rw [List.cons_append,Core.ws,Core.ws,ih];omega
theorem Form.w_kids (f:Form):Form.ws f.kids+f.scopes.length+1=f.w:=by obtain ⟨a,b,c,d,e⟩:=f;simp only [Form.w,Form.kids,Form.scopes];omega
theorem Core.w_kids (f:Core):Core.ws f.kids+f.ids.length+f.data.w+1=f.w:=by obtain ⟨a,b,c,d,e,g,h⟩:=f;simp only [Core.w,Core.kids,Core.ids,Core.data];omega
structure OkRd (r:zba) (K:Int):Prop where
 len:r.b.length≤2000
 byte:∀ x∈r.b,0≤x∧x < 256
 lo:0≤r.p
 hi:r.p≤K
theorem OkRd.mono {r:zba} {K K':Int} (h:OkRd r K) (hk:K≤K'):OkRd r K':=⟨h.len,h.byte,h.lo,by have:=h.hi;omega⟩
theorem OkRd.mk' {r:zba} {K:Int} (h:OkRd r K):OkRd (zba.mk r.b r.p) K:=h
end Go.Abs
end
section
section
set_option linter.unusedVariables false
set_option linter.unusedSimpArgs false
namespace Go.Abs
noncomputable def same {α:Type} (a b:α):Bool:=@decide (a=b) (Classical.propDecidable _)
theorem zfV {α:Type} {a b:α}:same a b=true↔a=b:=by unfold same;exact @decide_eq_true_iff _ (Classical.propDecidable _)
theorem zgv {α:Type} (a:α):same a a=true:=zfV.2 rfl
theorem same_of {α β:Type} {a b:α} {c d:β} (h:a=b↔c=d):same a b=same c d:=by
 rw [Bool.eq_iff_iff,zfV,zfV];exact h
theorem same_ne {α:Type} {a b:α} (h:a≠b):same a b=false:=by
 rw [← Bool.not_eq_true,zfV];exact h
theorem same_comm {α:Type} (a b:α):same a b=same b a:=same_of ⟨Eq.symm,Eq.symm⟩
theorem same_dec {α:Type} (a b:α) [inst:Decidable (a=b)]:same a b=decide (a=b):=by
 rw [Bool.eq_iff_iff,zfV,decide_eq_true_iff]
theorem same_cons {α:Type} (a b:α) (xs ys:List α):same (a::xs) (b::ys)=(same a b&&same xs ys):=by
 rw [Bool.eq_iff_iff,Bool.and_eq_true,zfV,zfV,zfV,List.cons.injEq]
theorem drop_get {α:Type} {l:List α} {k:Nat} {x:α} (h:l[k]?=some x):l.drop k=x::l.drop (k+1):=by
 obtain ⟨hk,rfl⟩:=List.getElem?_eq_some_iff.1 h
 exact List.drop_eq_getElem_cons hk
theorem loop_eq {α:Type} {xs ys:List α} (hl:xs.length=ys.length) {L:Nat→Int→Option Bool} {E:Nat→α→α→Option Bool}
  (h0:∀ m k,L (m+1) k=bif decide (k < (xs.length:Int)) then (idx xs k).bind fun a=>(idx ys k).bind fun b=>(E m a b).bind fun v=>bif !v then some false else L m (k+1) else some true)
  (hE:∀ a∈xs,∀ b∈ys,Tr (fun m=>E m a b) (same a b)):Tr (fun m=>L m 0) (same xs ys):=by
 have key:=zak xs (fun k zs=>Tr (fun m=>L m (k:Int)) (same zs (ys.drop k))) ?_ ?_ 0 (Nat.zero_le _)
 ·simpa using key
 ·rw [hl,List.drop_length,zgv]
  exact Tr.step (fun m=>by rw [h0,hl,z6,cond_false]) Tr.val
 ·intro k x zs hk hx hd ih
  have hk':k < ys.length:=by omega
  have hy:ys[k]?=some ys[k]:=List.getElem?_eq_getElem hk'
  rw [drop_get hy,same_cons]
  refine Tr.step (fun m=>by rw [h0,ltN hk,cond_true,zE hx,Option.bind_some,zE hy,Option.bind_some,zbp]) ?_
  refine Tr.bind (hE x (List.mem_of_getElem? hx) ys[k] (List.getElem_mem hk')) ?_
  cases h:same x ys[k] with
  | false=>exact Tr.tt rfl Tr.val
  | true=>exact Tr.ff rfl ih
theorem loop_eqI {α:Type} [DecidableEq α] {xs ys:List α} (hl:xs.length=ys.length) {L:Nat→Int→Option Bool}
  (h0:∀ m k,L (m+1) k=bif decide (k < (xs.length:Int)) then (idx xs k).bind fun a=>(idx ys k).bind fun b=>bif decide (a≠b) then some false else L m (k+1) else some true):Tr (fun m=>L m 0) (same xs ys) :=
 loop_eq (E:=fun _ a b=>some (decide (a=b))) hl (fun m k=>by
  rw [h0];congr 1;congr 1;funext a;congr 1;funext b;rw [Option.bind_some];congr 1;simp) (fun a _ b _=>Tr.of (fun _=>by rw [same_dec]))
def alls {α:Type} (D:α→Bool):List α→Bool
 | []=>true
 | x::xs=>D x&&alls D xs
theorem zdT {α:Type} {D:α→Bool}:∀ {l:List α},alls D l=true↔∀ x∈l,D x=true
 | []=>by simp [alls]
 | x::xs=>by rw [alls,Bool.and_eq_true,zdT];simp
theorem loop_all {α:Type} {xs:List α} {c:Bool} {D:α→Bool} {L:Nat→Int→Option Bool} {E:Nat→α→Option Bool}
  (h0:∀ m k,L (m+1) k=bif decide (k < (xs.length:Int)) then (idx xs k).bind fun a=>(E m a).bind fun v=>bif !v then some false else L m (k+1) else some c)
  (hE:∀ a∈xs,Tr (fun m=>E m a) (D a)):Tr (fun m=>L m 0) (alls D xs&&c):=by
 have key:=zak xs (fun k zs=>Tr (fun m=>L m (k:Int)) (alls D zs&&c)) ?_ ?_ 0 (Nat.zero_le _)
 ·simpa using key
 ·exact Tr.step (fun m=>by rw [h0,z6,cond_false]) (by simpa [alls] using Tr.val)
 ·intro k x zs hk hx hd ih
  refine Tr.step (fun m=>by rw [h0,ltN hk,cond_true,zE hx,Option.bind_some,zbp]) ?_
  refine Tr.bind (hE x (List.mem_of_getElem? hx)) ?_
  rw [alls]
  cases h:D x with
  | false=>exact Tr.tt rfl Tr.val
  | true=>exact Tr.ff rfl (by simpa using ih)
def fnd {α:Type} (D:α→Bool):List α→Nat→Int
 | [],_=>-1
 | x::xs,k=>bif D x then (k:Int) else fnd D xs (k+1)
theorem fnd_ge {α:Type} {D:α→Bool}:∀ {l:List α} {k:Nat},(0≤fnd D l k)↔∃ x∈l,D x=true
 | [],k=>by simp [fnd]
 | x::xs,k=>by
   rw [fnd]
   cases h:D x with
   | true=>simp [h]
   | false=>rw [cond_false,fnd_ge];simp [h]
theorem zg4 {α:Type} {xs:List α} {D:α→Bool} {L:Nat→Int→Option Int} {E:Nat→α→Option Bool}
  (h0:∀ m k,L (m+1) k=bif decide (k < (xs.length:Int)) then (idx xs k).bind fun a=>(E m a).bind fun v=>bif v then some k else L m (k+1) else some (-1))
  (hE:∀ a∈xs,Tr (fun m=>E m a) (D a)):Tr (fun m=>L m 0) (fnd D xs 0):=by
 have key:=zak xs (fun k zs=>Tr (fun m=>L m (k:Int)) (fnd D zs k)) ?_ ?_ 0 (Nat.zero_le _)
 ·simpa using key
 ·exact Tr.step (fun m=>by rw [h0,z6,cond_false];rfl) Tr.val
 ·intro k x zs hk hx hd ih
  refine Tr.step (fun m=>by rw [h0,ltN hk,cond_true,zE hx,Option.bind_some,zbp]) ?_
  refine Tr.bind (hE x (List.mem_of_getElem? hx)) ?_
  rw [fnd]
  cases h:D x with
  | false=>exact Tr.ff rfl ih
  | true=>exact Tr.tt rfl Tr.val
end Go.Abs
end
section
set_option linter.unusedVariables false
set_option linter.unusedSimpArgs false
namespace Go.Abs
mutual
def Hit.w:Hit→Nat
 | .mk name _ one many=>1+name.w+one.w+Hit.ws many
def Hit.ws:List Hit→Nat
 | []=>0
 | f::fs=>1+f.w+Hit.ws fs
end
theorem Hit.ws_len:∀ (l:List Hit),l.length≤Hit.ws l
 | []=>by simp
 | f::fs=>by have:=Hit.ws_len fs;rw [Hit.ws,List.length_cons];omega
theorem Hit.ws_mem:∀ {l:List Hit} {x:Hit},x∈l→x.w < Hit.ws l
 | f::fs,x,h=>by
   rw [Hit.ws]
   rcases List.mem_cons.1 h with rfl | h
   ·omega
   ·have:=Hit.ws_mem h;omega
theorem Hit.w_parts (f:Hit):Hit.ws f.many+f.name.w+f.one.w+1=f.w:=by obtain ⟨a,b,c,d⟩:=f;simp only [Hit.w,Hit.many,Hit.name,Hit.one];omega
theorem Form.w_pos (f:Form):1≤f.w:=by have:=f.w_kids;omega
theorem same_len {α:Type} {a b:List α} (h:a.length≠b.length):same a b=false:=same_ne (fun e=>h (by rw [e]))
theorem form_same (a b:Form):same a b=(decide (a.kind=b.kind)&&(decide (a.name=b.name)&&(decide (a.n=b.n)&&(same a.scopes b.scopes&&same a.kids b.kids)))):=by
 obtain ⟨k,nm,n,sc,ki⟩:=a
 obtain ⟨k',nm',n',sc',ki'⟩:=b
 show _=(decide (k=k')&&(decide (nm=nm')&&(decide (n=n')&&(same sc sc'&&same ki ki'))))
 rw [Bool.eq_iff_iff]
 simp only [Bool.and_eq_true,zfV,decide_eq_true_eq,Form.mk.injEq]
theorem lenB {a b:Nat} (h:a≠b):decide ((a:Int)≠(b:Int))=true:=decide_eq_true (by omega)
theorem lenE {a b:Nat} (h:a=b):decide ((a:Int)≠(b:Int))=false:=decide_eq_false (by omega)
theorem slEqual_tr (a b:List Int):Tr (fun m=>zdJ m a b) (same a b):=by
 refine Tr.eq (fun m=>by unfold zdJ;rfl) ?_
 by_cases h:a.length=b.length
 ·exact Tr.ff (lenE h) (loop_eqI h (L:=fun m k=>zby m a b k) (fun m k=>by rw [zby]))
 ·rw [same_len h];exact Tr.tt (lenB h) Tr.val
theorem l1Ints_tr (a b:List Int):Tr (fun m=>zfc m a b) (same a b):=by
 refine Tr.eq (fun m=>by unfold zfc;rfl) ?_
 by_cases h:a.length=b.length
 ·exact Tr.ff (lenE h) (loop_eqI h (L:=fun m k=>zc3 m a b k) (fun m k=>by rw [zc3]))
 ·rw [same_len h];exact Tr.tt (lenB h) Tr.val
theorem implFormSame_n:∀ (n:Nat) (a b:Form),a.w≤n→Tr (fun m=>zaz m a b) (same a b):=by
 intro n
 induction n with
 | zero=>intro a b h;have:=a.w_pos;omega
 | succ n ih =>
   intro a b h
   have hw:=a.w_kids
   rw [form_same]
   refine Tr.step (fun m=>by rw [zaz]) ?_
   cases decide (a.kind=b.kind) with
   | false=>exact Tr.ff rfl Tr.val
   | true =>
   refine Tr.tt rfl ?_
   cases decide (a.name=b.name) with
   | false=>exact Tr.ff rfl Tr.val
   | true =>
   refine Tr.tt rfl ?_
   cases decide (a.n=b.n) with
   | false=>exact Tr.ff rfl Tr.val
   | true =>
   refine Tr.tt rfl (Tr.bind (slEqual_tr _ _) ?_)
   cases same a.scopes b.scopes with
   | false=>exact Tr.ff rfl Tr.val
   | true =>
   refine Tr.tt rfl (Tr.bind (v:=same a.kids b.kids) (Tr.step (fun m=>by rw [zaR]) ?_) Tr.val)
   by_cases hl:a.kids.length=b.kids.length
   ·exact Tr.ff (lenE hl) (loop_eq hl (L:=fun m k=>zaf m a.kids b.kids k) (E:=fun m x y=>zaz m x y) (fun m k=>by rw [zaf]) (fun x hx y _=>ih x y (by have:=Form.ws_mem hx;omega)))
   ·rw [same_len hl];exact Tr.tt (lenB hl) Tr.val
theorem zch (a b:Form):Tr (fun m=>zaz m a b) (same a b):=implFormSame_n _ a b (Nat.le_refl _)
theorem specFormSame_n:∀ (n:Nat) (a b:Form),a.w≤n→Tr (fun m=>zav m a b) (same a b):=by
 intro n
 induction n with
 | zero=>intro a b h;have:=a.w_pos;omega
 | succ n ih =>
   intro a b h
   have hw:=a.w_kids
   rw [form_same]
   refine Tr.step (fun m=>by rw [zav]) ?_
   by_cases h1:a.kind=b.kind
   case neg=>rw [decide_eq_false h1];exact Tr.tt (by simpa using h1) Tr.val
   rw [decide_eq_true h1]
   refine Tr.ff (by simpa using h1) ?_
   by_cases h2:a.name=b.name
   case neg=>rw [decide_eq_false h2];exact Tr.tt (by simpa using h2) Tr.val
   rw [decide_eq_true h2]
   refine Tr.ff (by simpa using h2) ?_
   by_cases h3:a.n=b.n
   case neg=>rw [decide_eq_false h3];exact Tr.tt (by simpa using h3) Tr.val
   rw [decide_eq_true h3]
   refine Tr.ff (by simpa using h3) (Tr.bind (l1Ints_tr _ _) ?_)
   cases same a.scopes b.scopes with
   | false=>exact Tr.tt rfl Tr.val
   | true =>
   refine Tr.ff rfl ?_
   by_cases hl:a.kids.length=b.kids.length
   ·exact Tr.ff (lenE hl) (loop_eq hl (L:=fun m k=>zcc m a b k) (E:=fun m x y=>zav m x y) (fun m k=>by rw [zcc]) (fun x hx y _=>ih x y (by have:=Form.ws_mem hx;omega)))
   ·rw [same_len hl];exact Tr.tt (lenB hl) Tr.val
theorem zcL (a b:Form):Tr (fun m=>zav m a b) (same a b):=specFormSame_n _ a b (Nat.le_refl _)
end Go.Abs
end
section
set_option linter.unusedVariables false
set_option linter.unusedSimpArgs false
namespace Go.Abs
mutual
def Form.fit:Form→Prop
 | .mk _ name _ scopes kids=>name.size≤9223372036854775807∧scopes.length≤9223372036854775807∧kids.length≤9223372036854775807∧Form.fits kids
def Form.fits:List Form→Prop
 | []=>True
 | f::fs=>f.fit∧Form.fits fs
end
mutual
def Hit.fit:Hit→Prop
 | .mk name _ one many=>name.fit∧one.fit∧many.length≤9223372036854775807∧Hit.fits many
def Hit.fits:List Hit→Prop
 | []=>True
 | f::fs=>f.fit∧Hit.fits fs
end
theorem Form.fits_mem:∀ {l:List Form} {x:Form},Form.fits l→x∈l→x.fit
 | f::fs,x,h,hx=>by
   rw [Form.fits] at h
   rcases List.mem_cons.1 hx with rfl | hx
   ·exact h.1
   ·exact Form.fits_mem h.2 hx
theorem Hit.fits_mem:∀ {l:List Hit} {x:Hit},Hit.fits l→x∈l→x.fit
 | f::fs,x,h,hx=>by
   rw [Hit.fits] at h
   rcases List.mem_cons.1 hx with rfl | hx
   ·exact h.1
   ·exact Hit.fits_mem h.2 hx
theorem Form.fit.parts {f:Form} (h:f.fit):f.name.size≤9223372036854775807∧f.scopes.length≤9223372036854775807∧f.kids.length≤9223372036854775807∧Form.fits f.kids:=by
 obtain ⟨a,b,c,d,e⟩:=f;rw [Form.fit] at h;exact h
theorem Hit.fit.parts {f:Hit} (h:f.fit):f.name.fit∧f.one.fit∧f.many.length≤9223372036854775807∧Hit.fits f.many:=by
 obtain ⟨a,b,c,d⟩:=f;rw [Hit.fit] at h;exact h
end Go.Abs
end
section
set_option linter.unusedVariables false
set_option linter.unusedSimpArgs false
namespace Go.Abs
def letterB (c:Int) (first:Bool):Bool:=(decide (97≤c)&&decide (c≤122))||(decide (c=42)||(decide (c=63)||(decide (c=61)||(decide (c=43)||(decide (c=60)||(!first&&((decide (48≤c)&&decide (c≤57))||decide (c=45))))))))
theorem l1Letter_tr (c:Int) (first:Bool):Tr (fun m=>zeW m c first) (letterB c first):=by
 refine Tr.of (fun m=>?_)
 unfold zeW letterB
 cases decide (97≤c)<;>cases decide (c≤122)<;>cases decide (c=42)<;>cases decide (c=63)<;>cases decide (c=61)<;>cases decide (c=43)<;>cases decide (c=60)<;>cases first<;>cases decide (48≤c)<;>cases decide (c≤57)<;>rfl
def nmF:Nat→List UInt8→Bool
 | _,[]=>true
 | k,x::xs=>letterB (x.toNat:Int) (decide ((k:Int)=0))&&nmF (k+1) xs
def nmSz (s:ByteArray):Bool:=decide (1≤(s.size:Int))&&decide ((s.size:Int)≤12)
def nmOk (s:ByteArray):Bool:=decide (s=(⟨#[46,46,46]⟩:ByteArray))||(decide (s=(⟨#[95]⟩:ByteArray))||(nmF 0 s.data.toList&&nmSz s))
theorem sz_list (s:ByteArray):s.size=s.data.toList.length:=by rw [ByteArray.size];simp
theorem bidx_nat {s:ByteArray} {k:Nat} {x:UInt8} (h:s.data.toList[k]?=some x):bidx s (k:Int)=some (x.toNat:Int):=by
 have hk:k < s.size:=by rw [sz_list];exact (List.getElem?_eq_some_iff.1 h).1
 unfold bidx
 rw [show (decide ((0:Int)≤k)&&decide ((k:Int) < s.size))=true by simp;omega,cond_true]
 rw [Int.toNat_natCast,byteAt,List.getD_eq_getElem?_getD,h];rfl
theorem bif_and (a b:Bool):(bif a then some b else some false)=some (a&&b):=by cases a<;>rfl
theorem specNm_tr (s:ByteArray):Tr (fun m=>zdE m s) (nmOk s):=by
 refine Tr.eq (fun m=>by unfold zdE;rfl) ?_
 unfold nmOk
 cases decide (s=(⟨#[46,46,46]⟩:ByteArray)) with
 | true=>exact Tr.tt rfl Tr.val
 | false =>
 refine Tr.ff rfl ?_
 cases decide (s=(⟨#[95]⟩:ByteArray)) with
 | true=>exact Tr.tt rfl Tr.val
 | false =>
 refine Tr.ff rfl ?_
 have hs:=sz_list s
 have key:=zak s.data.toList (fun k zs=>Tr (fun m=>zbu m s (k:Int)) (nmF k zs&&nmSz s)) ?_ ?_ 0 (Nat.zero_le _)
 ·simpa using key
 ·refine Tr.step (fun m=>by rw [zbu,hs,z6,cond_false,← hs]) (Tr.of fun m=>?_)
  rw [bif_and];rfl
 ·intro k x zs hk hx hd ih
  refine Tr.step (fun m=>by rw [zbu,ltN (show k < s.size by omega),cond_true]) ?_
  by_cases h12:k≤12
  ·refine Tr.tt (decide_eq_true (by omega)) (Tr.eq (fun m=>by rw [bidx_nat hx,Option.bind_some,zaG (by omega),zbp]) ?_)
   refine Tr.bind (l1Letter_tr _ _) ?_
   rw [nmF]
   cases letterB (x.toNat:Int) (decide ((k:Int)=0)) with
   | false=>exact Tr.tt rfl Tr.val
   | true=>exact Tr.ff rfl (by simpa using ih)
  ·refine Tr.ff (decide_eq_false (by omega)) (Tr.of fun m=>?_)
   have:nmSz s=false:=by unfold nmSz;rw [decide_eq_false (show ¬ (s.size:Int)≤12 by omega),Bool.and_false]
   rw [bif_and,this,Bool.and_false]
   rw [decide_eq_false (show ¬ (s.size:Int)≤12 by omega),Bool.and_false]
theorem within_tr (x lo hi:Int):Tr (fun m=>zdb m x lo hi) (decide (lo≤x)&&decide (x≤hi)) :=
 Tr.of (fun m=>by unfold zdb;rw [bif_and])
theorem star_eq (x:UInt8):decide (0≤Lib.indexByte [42,63,61,43,60] ((x.toNat:Int).toNat.toUInt8))=(decide ((x.toNat:Int)=42)||(decide ((x.toNat:Int)=63)||(decide ((x.toNat:Int)=61)||(decide ((x.toNat:Int)=43)||decide ((x.toNat:Int)=60))))):=by
 have hx:((x.toNat:Int).toNat.toUInt8)=x:=by rw [Int.toNat_natCast];exact UInt8.ofNat_toNat
 rw [hx]
 show decide (0≤Lib.indexByte [42,63,61,43,60] x)=_
 by_cases h1:x=42
 ·subst h1;decide
 by_cases h2:x=63
 ·subst h2;decide
 by_cases h3:x=61
 ·subst h3;decide
 by_cases h4:x=43
 ·subst h4;decide
 by_cases h5:x=60
 ·subst h5;decide
 have ne:∀ (y:UInt8) (z:Int),(y.toNat:Int)=z→x≠y→¬ ((x.toNat:Int)=z):=fun y z hz hy e=>hy (UInt8.toNat_inj.1 (by omega))
 have e:Lib.indexByte [42,63,61,43,60] x=-1:=by
  simp [Lib.indexByte,Ne.symm h1,Ne.symm h2,Ne.symm h3,Ne.symm h4,Ne.symm h5,beq_eq_false_iff_ne]
 rw [e,decide_eq_false (ne 42 42 rfl h1),decide_eq_false (ne 63 63 rfl h2),decide_eq_false (ne 61 61 rfl h3),decide_eq_false (ne 43 43 rfl h4),decide_eq_false (ne 60 60 rfl h5)]
 rfl
theorem implNm_tr (s:ByteArray) (hs:s.size≤9223372036854775807):Tr (fun m=>zeA m s) (nmOk s):=by
 refine Tr.eq (fun m=>by unfold zeA;rfl) ?_
 unfold nmOk
 cases decide (s=(⟨#[46,46,46]⟩:ByteArray)) with
 | true=>exact Tr.tt rfl Tr.val
 | false =>
 refine Tr.ff rfl ?_
 cases decide (s=(⟨#[95]⟩:ByteArray)) with
 | true=>exact Tr.tt rfl Tr.val
 | false =>
 refine Tr.ff rfl ?_
 have hsz:=sz_list s
 have key:=zak s.data.toList (fun k zs=>Tr (fun m=>z8 m s (k:Int)) (nmF k zs&&nmSz s)) ?_ ?_ 0 (Nat.zero_le _)
 ·simpa using key
 ·refine Tr.step (fun m=>by rw [z8,hsz,z6,cond_false,← hsz]) ?_
  refine Tr.bind (within_tr _ _ _) Tr.val
 ·intro k x zs hk hx hd ih
  refine Tr.step (fun m=>by rw [z8,ltN (show k < s.size by omega),cond_true,bidx_nat hx,Option.bind_some,zaG (by omega),zbp]) ?_
  simp only [zd7,Option.bind_some,star_eq]
  rw [nmF]
  unfold letterB
  have hp:decide (0 < (k:Int))=!decide ((k:Int)=0):=by
   rw [Bool.eq_iff_iff,Bool.not_eq_true',decide_eq_true_iff,decide_eq_false_iff_not];omega
  rw [hp]
  rw [Bool.and_assoc]
  generalize hR:(nmF (k+1) zs&&nmSz s)=R at ih ⊢
  generalize decide (97≤(x.toNat:Int))=b1
  generalize decide ((x.toNat:Int)≤122)=b2
  generalize decide ((x.toNat:Int)=42)=c1
  generalize decide ((x.toNat:Int)=63)=c2
  generalize decide ((x.toNat:Int)=61)=c3
  generalize decide ((x.toNat:Int)=43)=c4
  generalize decide ((x.toNat:Int)=60)=c5
  generalize decide ((k:Int)=0)=z
  generalize decide (48≤(x.toNat:Int))=b3
  generalize decide ((x.toNat:Int)≤57)=b4
  generalize decide ((x.toNat:Int)=45)=b5
  have hc:∀ a b c d e w:Bool,(a||(b||(c||(d||(e||w)))))=((a||(b||(c||(d||e))))||w):=by decide
  rw [hc c1 c2 c3 c4 c5]
  generalize (c1||(c2||(c3||(c4||c5))))=st
  cases b1<;>cases b2<;>cases st<;>cases z<;>cases b3<;>cases b4<;>cases b5<;>first | exact Tr.val | exact ih
def gtP:Option Int→Int→Bool
 | none,_=>true
 | some q,x=>decide (q < x)
def scF:Option Int→List Int→Bool
 | _,[]=>true
 | p,x::xs=>(decide (1≤x)&&decide (x≤99))&&(gtP p x&&scF (some x) xs)
def prevAt (l:List Int):Nat→Option Int
 | 0=>none
 | j+1=>l[j]?
def scOk (l:List Int):Bool:=scF none l&&decide ((l.length:Int)≤24)
theorem prev_succ {l:List Int} {k:Nat} {x:Int} (h:l[k]?=some x):prevAt l (k+1)=some x:=h
theorem pos_succ (k:Nat):decide ((0:Int) < ((k+1:Nat):Int))=true:=decide_eq_true (by omega)
theorem implSc_tr (l:List Int) (hl:l.length≤9223372036854775807):Tr (fun m=>zeY m l) (scOk l):=by
 refine Tr.eq (fun m=>by unfold zeY;rfl) ?_
 have key:=zak l (fun k zs=>Tr (fun m=>zbo m l (k:Int)) (scF (prevAt l k) zs&&decide ((l.length:Int)≤24))) ?_ ?_ 0 (Nat.zero_le _)
 ·simpa [scOk,prevAt] using key
 ·exact Tr.step (fun m=>by rw [zbo,z6,cond_false];simp [scF]) Tr.val
 ·intro k x zs hk hx hd ih
  rw [prev_succ hx] at ih
  refine Tr.step (fun m=>by rw [zbo,ltN hk,cond_true,zE hx,Option.bind_some,zbp]) ?_
  refine Tr.bind (within_tr _ _ _) ?_
  rw [scF]
  cases (decide (1≤x)&&decide (x≤99)) with
  | false=>exact Tr.tt rfl Tr.val
  | true =>
  refine Tr.ff rfl ?_
  cases k with
  | zero=>exact Tr.ff (by simp) (by simpa [prevAt,gtP] using ih)
  | succ j =>
    have hj:l[j]?=some l[j]:=List.getElem?_eq_getElem (by omega)
    refine Tr.tt (pos_succ j) (Tr.eq (fun m=>by rw [zaG (by omega),show ((j+1:Nat):Int)-1=(j:Int) by omega,zE hj,Option.bind_some]) ?_)
    rw [show prevAt l (j+1)=some l[j] from hj,gtP]
    by_cases h:x≤l[j]
    ·rw [decide_eq_false (show ¬ l[j] < x by omega)];exact Tr.tt (decide_eq_true h) Tr.val
    ·rw [decide_eq_true (show l[j] < x by omega)];exact Tr.ff (decide_eq_false h) (by simpa using ih)
theorem specSc_tr (l:List Int) (hl:l.length≤9223372036854775807):Tr (fun m=>zdW m l) (scOk l):=by
 refine Tr.eq (fun m=>by unfold zdW;rfl) ?_
 have key:=zak l (fun k zs=>Tr (fun m=>zbm m l (k:Int)) (scF (prevAt l k) zs&&decide ((l.length:Int)≤24))) ?_ ?_ 0 (Nat.zero_le _)
 ·simpa [scOk,prevAt] using key
 ·exact Tr.step (fun m=>by rw [zbm,z6,cond_false];simp [scF]) Tr.val
 ·intro k x zs hk hx hd ih
  rw [prev_succ hx] at ih
  refine Tr.step (fun m=>by rw [zbm,ltN hk,cond_true]) ?_
  by_cases h24:k≤24
  case neg =>
   refine Tr.ff (decide_eq_false (by omega)) (Tr.of fun m=>?_)
   rw [decide_eq_false (show ¬ (l.length:Int)≤24 by omega),Bool.and_false]
  refine Tr.tt (decide_eq_true (by omega)) (Tr.eq (fun m=>by rw [zE hx,Option.bind_some,Option.bind_some]) ?_)
  rw [scF]
  by_cases h1:x < 1
  ·rw [decide_eq_false (show ¬ 1≤x by omega)];exact Tr.tt (decide_eq_true h1) Tr.val
  rw [decide_eq_true (show 1≤x by omega)]
  refine Tr.ff (decide_eq_false h1) ?_
  by_cases h2:99 < x
  ·rw [decide_eq_false (show ¬ x≤99 by omega)];exact Tr.tt (decide_eq_true h2) Tr.val
  rw [decide_eq_true (show x≤99 by omega)]
  refine Tr.ff (decide_eq_false h2) ?_
  cases k with
  | zero=>exact Tr.ff (by simp) (Tr.eq (fun m=>by rw [zaG (by omega),zbp]) (by simpa [prevAt,gtP] using ih))
  | succ j =>
    have hj:l[j]?=some l[j]:=List.getElem?_eq_getElem (by omega)
    refine Tr.tt (pos_succ j) (Tr.eq (fun m=>by rw [Option.bind_some,zaG (by omega),show ((j+1:Nat):Int)-1=(j:Int) by omega,zE hj,Option.bind_some]) ?_)
    rw [show prevAt l (j+1)=some l[j] from hj,gtP]
    by_cases h:x≤l[j]
    ·rw [decide_eq_false (show ¬ l[j] < x by omega)];exact Tr.tt (decide_eq_true h) Tr.val
    ·rw [decide_eq_true (show l[j] < x by omega)];exact Tr.ff (decide_eq_false h) (Tr.eq (fun m=>by rw [zaG (by omega),zbp]) (by simpa using ih))
end Go.Abs
end
section
set_option linter.unusedVariables false
set_option linter.unusedSimpArgs false
namespace Go.Abs
mutual
def Form.isOk:Form→Nat→Bool
 | .mk kind name n scopes kids,d=>bif decide (d=0) then false else
   bif decide (kind=1) then (nmOk name&&(decide (n=0)&&(scOk scopes&&decide ((kids.length:Int)=0))))
   else bif decide (kind=2) then (decide (name=(⟨#[]⟩:ByteArray))&&((decide (0≤n)&&decide (n≤999))&&(decide ((scopes.length:Int)=0)&&decide ((kids.length:Int)=0))))
   else (decide (kind=3)&&(decide (name=(⟨#[]⟩:ByteArray))&&(decide (n=0)&&(decide ((scopes.length:Int)=0)&&Form.isOks kids (d-1)))))
def Form.isOks:List Form→Nat→Bool
 | [],_=>true
 | f::fs,d=>f.isOk d&&Form.isOks fs d
end
mutual
def Form.cnt:Form→Nat
 | .mk _ _ _ _ kids=>1+Form.cnts kids
def Form.cnts:List Form→Nat
 | []=>0
 | f::fs=>f.cnt+Form.cnts fs
end
theorem Form.isOks_eq (d:Nat):∀ l:List Form,Form.isOks l d=alls (fun x=>x.isOk d) l
 | []=>rfl
 | f::fs=>by rw [Form.isOks,alls,Form.isOks_eq d fs]
theorem Form.isOk_eq (f:Form) (d:Nat):f.isOk d=bif decide (d=0) then false else
  bif decide (f.kind=1) then (nmOk f.name&&(decide (f.n=0)&&(scOk f.scopes&&decide ((f.kids.length:Int)=0))))
  else bif decide (f.kind=2) then (decide (f.name=(⟨#[]⟩:ByteArray))&&((decide (0≤f.n)&&decide (f.n≤999))&&(decide ((f.scopes.length:Int)=0)&&decide ((f.kids.length:Int)=0))))
  else (decide (f.kind=3)&&(decide (f.name=(⟨#[]⟩:ByteArray))&&(decide (f.n=0)&&(decide ((f.scopes.length:Int)=0)&&alls (fun x=>x.isOk (d-1)) f.kids)))):=by
 obtain ⟨a,b,c,e,g⟩:=f;rw [Form.isOk,Form.isOks_eq];rfl
theorem Form.cnt_eq (f:Form):f.cnt=1+Form.cnts f.kids:=by obtain ⟨a,b,c,e,g⟩:=f;rw [Form.cnt];rfl
mutual
theorem Form.cnt_w:∀ f:Form,f.cnt≤f.w
 | .mk a b c d e=>by have:=Form.cnts_ws e;rw [Form.cnt,Form.w];omega
theorem Form.cnts_ws:∀ l:List Form,Form.cnts l≤Form.ws l
 | []=>by simp [Form.cnts]
 | f::fs=>by have:=Form.cnt_w f;have:=Form.cnts_ws fs;rw [Form.cnts,Form.ws];omega
end
def Form.valid (f:Form):Bool:=f.isOk 40&&decide (f.cnt≤400)
theorem l1Is_n:∀ (n:Nat) (f:Form) (d:Nat),f.w≤n→f.fit→d≤40→Tr (fun m=>zeX m f (d:Int)) (f.isOk d):=by
 intro n
 induction n with
 | zero=>intro a d h;have:=a.w_pos;omega
 | succ n ih =>
   intro f d h hf hd
   obtain ⟨f1,f2,f3,f4⟩:=hf.parts
   have hw:=f.w_kids
   rw [Form.isOk_eq]
   refine Tr.step (fun m=>by rw [zeX]) ?_
   cases hd0:decide (d=0) with
   | true=>exact Tr.tt (decide_eq_true (by simpa using hd0)) Tr.val
   | false =>
   have hd1:d≠0:=by simpa using hd0
   refine Tr.ff (decide_eq_false (by omega)) ?_
   rw [cond_false]
   cases decide (f.kind=1) with
   | true =>
     refine Tr.tt rfl (Tr.bind (specNm_tr _) ?_)
     rw [cond_true]
     cases nmOk f.name with
     | false=>exact Tr.ff rfl Tr.val
     | true =>
     refine Tr.tt rfl ?_
     cases decide (f.n=0) with
     | false=>exact Tr.ff rfl Tr.val
     | true =>
     refine Tr.tt rfl (Tr.bind (specSc_tr _ f2) ?_)
     cases scOk f.scopes with
     | false=>exact Tr.ff rfl Tr.val
     | true=>exact Tr.tt rfl Tr.val
   | false =>
   refine Tr.ff rfl ?_
   rw [cond_false]
   cases decide (f.kind=2) with
   | true =>
     refine Tr.tt rfl (Tr.of fun m=>?_)
     rw [cond_true]
     cases decide (f.name=(⟨#[]⟩:ByteArray))<;>cases decide (0≤f.n)<;>cases decide (f.n≤999)<;>cases decide ((f.scopes.length:Int)=0)<;>rfl
   | false =>
   refine Tr.ff rfl ?_
   rw [cond_false]
   by_cases h3:f.kind=3
   case neg=>rw [decide_eq_false h3];exact Tr.tt (by simpa using h3) Tr.val
   rw [decide_eq_true h3]
   refine Tr.ff (by simpa using h3) ?_
   by_cases h4:f.name=(⟨#[]⟩:ByteArray)
   case neg=>rw [decide_eq_false h4];exact Tr.tt (by simpa using h4) Tr.val
   rw [decide_eq_true h4]
   refine Tr.ff (by simpa using h4) ?_
   by_cases h5:f.n=0
   case neg=>rw [decide_eq_false h5];exact Tr.tt (by simpa using h5) Tr.val
   rw [decide_eq_true h5]
   refine Tr.ff (by simpa using h5) ?_
   by_cases h6:(f.scopes.length:Int)=0
   case neg=>rw [decide_eq_false h6];exact Tr.tt (by rw [decide_eq_true_eq];exact h6) Tr.val
   rw [decide_eq_true h6]
   refine Tr.ff (by rw [decide_eq_false_iff_not];exact fun h=>h h6) ?_
   have e:((d:Int)-1)=((d-1:Nat):Int):=by omega
   have:=loop_all (xs:=f.kids) (c:=true) (D:=fun x=>x.isOk (d-1)) (L:=fun m k=>zdO m f (d:Int) k) (E:=fun m x=>zeX m x (w64 ((d:Int)-1))) (fun m k=>by rw [zdO]) (fun x hx=>by
    rw [zaG (by omega),e];exact ih x (d-1) (by have:=Form.ws_mem hx;omega) (Form.fits_mem f4 hx) (by omega))
   simpa using this
theorem l1Count_n:∀ (n:Nat) (f:Form),f.w≤n→f.w≤2 ^ 36→Tr (fun m=>zdh m f) (f.cnt:Int):=by
 intro n
 induction n with
 | zero=>intro a h;have:=a.w_pos;omega
 | succ n ih =>
   intro f h hb
   have hw:=f.w_kids
   have hc:=Form.cnts_ws f.kids
   refine Tr.step (fun m=>by rw [zdh]) ?_
   have key:=zak f.kids (fun k zs=>∀ g:Nat,g+Form.ws zs≤2 ^ 37→Tr (fun m=>zb3 m f (g:Int) (k:Int)) ((g+Form.cnts zs:Nat):Int)) ?_ ?_ 0 (Nat.zero_le _) 1 (by simp;omega)
   ·rw [Form.cnt_eq];simpa using key
   ·intro g hg
    exact Tr.step (fun m=>by rw [zb3,z6,cond_false];simp [Form.cnts]) Tr.val
   ·intro k x zs hk hx hd ihk g hg
    have hm:=List.mem_of_getElem? hx
    have hxw:=Form.ws_mem hm
    have hcx:=Form.cnt_w x
    rw [Form.ws] at hg
    refine Tr.step (fun m=>by rw [zb3,ltN hk,cond_true,zE hx,Option.bind_some,zbp]) ?_
    refine Tr.bind (ih x (by omega) (by omega)) ?_
    refine Tr.eq (fun m=>by rw [zaG (by omega),show (g:Int)+(x.cnt:Int)=((g+x.cnt:Nat):Int) by omega]) ?_
    rw [Form.cnts,← Nat.add_assoc]
    exact ihk _ (by omega)
theorem zbR (f:Form) (hf:f.fit) (hb:f.w≤2 ^ 36):Tr (fun m=>zaF m f) f.valid:=by
 refine Tr.eq (fun m=>by unfold zaF;rfl) (Tr.bind (l1Is_n _ f 40 (Nat.le_refl _) hf (by omega)) ?_)
 unfold Form.valid
 cases f.isOk 40 with
 | false=>exact Tr.ff rfl Tr.val
 | true =>
   refine Tr.tt rfl (Tr.bind (l1Count_n _ f (Nat.le_refl _) hb) (Tr.of fun m=>?_))
   rw [Bool.true_and];congr 1
   rw [Bool.eq_iff_iff,decide_eq_true_iff,decide_eq_true_iff];omega
theorem formOk_n:∀ (n:Nat) (f:Form) (d:Nat) (g:Int),f.w≤n→f.fit→1≤d→d≤41→0≤g→g≤400→TQ (fun m=>zec m f (d:Int) g) (fun r=>r.1=(f.isOk (41-d)&&decide ((f.cnt:Int)≤g))∧(r.1=true→r.2=g-f.cnt)):=by
 intro n
 induction n with
 | zero=>intro a d g h;have:=a.w_pos;omega
 | succ n ih =>
   intro f d g h hf hd hd' hg hg'
   obtain ⟨f1,f2,f3,f4⟩:=hf.parts
   have hw:=f.w_kids
   have hcn:=f.cnt_eq
   rw [Form.isOk_eq]
   refine TQ.step (fun m=>by rw [zec,zaG (by omega)]) ?_
   by_cases hg0:g-1 < 0
   ·refine TQ.eq (fun m=>by rw [decide_eq_true hg0,cond_true]) (TQ.val ⟨?_,fun h=>by cases h⟩)
    rw [decide_eq_false (show ¬ (f.cnt:Int)≤g by omega),Bool.and_false]
   refine TQ.eq (fun m=>by rw [decide_eq_false hg0,cond_false]) ?_
   by_cases hd0:40 < (d:Int)
   ·refine TQ.eq (fun m=>by rw [decide_eq_true hd0,cond_true]) (TQ.val ⟨?_,fun h=>by cases h⟩)
    rw [decide_eq_true (show 41-d=0 by omega),cond_true,Bool.false_and]
   refine TQ.eq (fun m=>by rw [decide_eq_false hd0,cond_false]) ?_
   rw [decide_eq_false (show ¬ 41-d=0 by omega),cond_false]
   have leaf:∀ (b:Bool),((b&&decide ((f.kids.length:Int)=0))=true→True):=fun _ _=>trivial
   have cnt1:(f.kids.length:Int)=0→(f.cnt:Int)=1:=fun h=>by
    have:f.kids=[]:=List.eq_nil_of_length_eq_zero (by omega)
    rw [hcn,this,Form.cnts];rfl
   have fin:TQ (fun _=>some ((decide ((f.kids.length:Int)=0)),g-1)) (fun r=>r.1=(decide ((f.kids.length:Int)=0)&&decide ((f.cnt:Int)≤g))∧(r.1=true→r.2=g-f.cnt)):=by
    refine TQ.val ⟨?_,fun h=>by have:=cnt1 (by simpa using h);omega⟩
    by_cases hk:(f.kids.length:Int)=0
    ·have:=cnt1 hk
     rw [decide_eq_true hk,decide_eq_true (show (f.cnt:Int)≤g by omega)];rfl
    ·rw [decide_eq_false hk];rfl
   have no:TQ (fun _=>some (false,g-1)) (fun r=>r.1=(false&&decide ((f.cnt:Int)≤g))∧(r.1=true→r.2=g-f.cnt)):=TQ.val ⟨rfl,fun h=>by cases h⟩
   cases decide (f.kind=1) with
   | true =>
     refine TQ.eq (fun m=>by rw [cond_true]) (TQ.ev (implNm_tr _ f1) ?_)
     rw [cond_true]
     cases nmOk f.name with
     | false=>exact no
     | true =>
     refine TQ.eq (fun m=>by rw [cond_true]) ?_
     cases decide (f.n=0) with
     | false=>exact no
     | true =>
     refine TQ.eq (fun m=>by rw [cond_true]) (TQ.ev (implSc_tr _ f2) ?_)
     cases scOk f.scopes with
     | false=>exact no
     | true=>exact fin
   | false =>
   refine TQ.eq (fun m=>by rw [cond_false]) ?_
   rw [cond_false]
   cases decide (f.kind=2) with
   | true =>
     refine TQ.eq (fun m=>by rw [cond_true]) ?_
     rw [cond_true]
     cases decide (f.name=(⟨#[]⟩:ByteArray)) with
     | false=>exact no
     | true =>
     refine TQ.eq (fun m=>by rw [cond_true]) (TQ.ev (within_tr _ _ _) ?_)
     cases (decide (0≤f.n)&&decide (f.n≤999)) with
     | false=>exact no
     | true =>
     refine TQ.eq (fun m=>by rw [cond_true]) ?_
     cases decide ((f.scopes.length:Int)=0) with
     | false=>exact no
     | true=>exact fin
   | false =>
   refine TQ.eq (fun m=>by rw [cond_false]) ?_
   rw [cond_false]
   cases decide (f.kind=3) with
   | false=>exact no
   | true =>
   refine TQ.eq (fun m=>by rw [cond_true]) ?_
   by_cases h4:f.name=(⟨#[]⟩:ByteArray)
   case neg=>rw [decide_eq_false h4];exact TQ.eq (fun m=>by rw [decide_eq_true h4,cond_true]) no
   rw [decide_eq_true h4]
   refine TQ.eq (fun m=>by rw [decide_eq_false (fun h=>h h4),cond_false]) ?_
   by_cases h5:f.n=0
   case neg=>rw [decide_eq_false h5];exact TQ.eq (fun m=>by rw [decide_eq_true h5,cond_true]) no
   rw [decide_eq_true h5]
   refine TQ.eq (fun m=>by rw [decide_eq_false (fun h=>h h5),cond_false]) ?_
   by_cases h6:(f.scopes.length:Int)=0
   case neg=>rw [decide_eq_false h6];exact TQ.eq (fun m=>by rw [decide_eq_true (show 0 < (f.scopes.length:Int) by omega),cond_true]) no
   rw [decide_eq_true h6]
   refine TQ.eq (fun m=>by rw [decide_eq_false (show ¬ 0 < (f.scopes.length:Int) by omega),cond_false]) ?_
   have key:=zak f.kids (fun k zs=>∀ g:Int,0≤g→g≤400→TQ (fun m=>zcx m f (d:Int) (k:Int) g) (fun r=>r.1=(alls (fun x=>x.isOk (41-d-1)) zs&&decide ((Form.cnts zs:Int)≤g))∧(r.1=true→r.2=g-Form.cnts zs))) ?_ ?_ 0 (Nat.zero_le _) (g-1) (by omega) (by omega)
   ·refine TQ.mono (by simpa using key) (fun r hr=>⟨?_,fun h=>by have:=hr.2 h;omega⟩)
    rw [hr.1]
    simp only [Bool.true_and]
    congr 1
    rw [Bool.eq_iff_iff,decide_eq_true_iff,decide_eq_true_iff];omega
   ·intro g hg _
    exact TQ.step (fun m=>by rw [zcx,z6,cond_false]) (TQ.val ⟨by simp [alls,Form.cnts,hg],fun _=>by simp [Form.cnts]⟩)
   ·intro k x zs hk hx hdr ihk g hg hg'
    have hm:=List.mem_of_getElem? hx
    refine TQ.step (fun m=>by rw [zcx,ltN hk,cond_true,zE hx,Option.bind_some,zbp,zaG (by omega),zbp]) ?_
    refine TQ.bind (ih x (d+1) g (by have:=Form.ws_mem hm;omega) (Form.fits_mem f4 hm) (by omega) (by omega) hg hg') (fun r hr=>?_)
    obtain ⟨h1,h2⟩:=hr
    have e:41-(d+1)=41-d-1:=by omega
    rw [e] at h1
    refine TQ.cond (fun hb=>?_) (fun hb=>?_)
    ·refine TQ.val ⟨?_,fun h=>by cases h⟩
     replace hb:r.1=false:=by simpa using hb
     rw [hb] at h1
     rw [alls,Form.cnts]
     cases hx:x.isOk (41-d-1) with
     | false=>rfl
     | true =>
       rw [hx,Bool.true_and] at h1
       have:¬ (x.cnt:Int)≤g:=of_decide_eq_false h1.symm
       rw [decide_eq_false (show ¬ ((x.cnt+Form.cnts zs:Nat):Int)≤g by omega),Bool.and_false]
    ·replace hb:r.1=true:=by simpa using hb
     have h3:=h2 hb
     rw [hb] at h1
     have h4:=(Bool.and_eq_true _ _ ▸ h1.symm:_∧_)
     have h5:(x.cnt:Int)≤g:=of_decide_eq_true h4.2
     refine TQ.mono (ihk r.2 (by omega) (by omega)) (fun q hq=>⟨?_,fun h=>by have:=hq.2 h;rw [Form.cnts];omega⟩)
     rw [hq.1,alls,Form.cnts,h4.1,Bool.true_and]
     congr 1
     rw [Bool.eq_iff_iff,decide_eq_true_iff,decide_eq_true_iff];omega
theorem zdF (f:Form) (hf:f.fit):Tr (fun m=>zbX m f) f.valid:=by
 obtain ⟨r,h1,h2,_⟩:=formOk_n _ f 1 400 (Nat.le_refl _) hf (by omega) (by omega) (by omega) (by omega)
 refine Tr.eq (fun m=>by unfold zbX;rfl) (Tr.bind h1 (Tr.of fun m=>?_))
 rw [h2];unfold Form.valid;congr 2
 rw [Bool.eq_iff_iff,decide_eq_true_iff,decide_eq_true_iff];omega
end Go.Abs
end
section
set_option linter.unusedVariables false
set_option linter.unusedSimpArgs false
namespace Go.Abs
abbrev dotsN:ByteArray:=(⟨#[46,46,46]⟩:ByteArray)
abbrev zgJ:ByteArray:=(⟨#[95]⟩:ByteArray)
abbrev zbQ:Form:=Form.mk 0 (⟨#[]⟩:ByteArray) 0 ([]:List Int) ([]:List Form)
def isNm (f:Form):Bool:=decide (f.kind=1)&&f.valid
theorem implIsName_tr (f:Form) (hf:f.fit):Tr (fun m=>zf8 m f) (isNm f):=by
 refine Tr.eq (fun m=>by unfold zf8;rfl) ?_
 unfold isNm
 cases decide (f.kind=1) with
 | false=>exact Tr.ff rfl Tr.val
 | true=>exact Tr.tt rfl (Tr.bind (zdF f hf) Tr.val)
theorem l3Is_tr (f:Form) (hf:f.fit) (hb:f.w≤2 ^ 36):Tr (fun m=>zgn m f) (isNm f):=by
 refine Tr.eq (fun m=>by unfold zgn;rfl) ?_
 unfold isNm
 cases decide (f.kind=1) with
 | false=>exact Tr.ff rfl Tr.val
 | true=>exact Tr.tt rfl (Tr.bind (zbR f hf hb) Tr.val)
mutual
noncomputable def Hit.isOk:Hit→Bool
 | .mk name depth one many=>isNm name&&(!decide (name.name=dotsN)&&(!decide (name.name=zgJ)&&((decide (0≤depth)&&decide (depth≤3)) &&
   bif decide (depth=0) then (one.valid&&decide ((many.length:Int)=0)) else (same one zbQ&&(decide ((many.length:Int)≤400)&&Hit.isOks many name (depth-1))))))
noncomputable def Hit.isOks:List Hit→Form→Int→Bool
 | [],_,_=>true
 | x::xs,nm,d=>(same x.name nm&&(decide (x.depth=d)&&x.isOk))&&Hit.isOks xs nm d
end
theorem Hit.isOks_eq (nm:Form) (d:Int):∀ l:List Hit,Hit.isOks l nm d=alls (fun x=>same x.name nm&&(decide (x.depth=d)&&x.isOk)) l
 | []=>by rw [Hit.isOks,alls]
 | x::xs=>by rw [Hit.isOks,alls,Hit.isOks_eq nm d xs]
theorem Hit.isOk_eq (h:Hit):h.isOk=(isNm h.name&&(!decide (h.name.name=dotsN)&&(!decide (h.name.name=zgJ)&&((decide (0≤h.depth)&&decide (h.depth≤3)) &&
  bif decide (h.depth=0) then (h.one.valid&&decide ((h.many.length:Int)=0)) else (same h.one zbQ&&(decide ((h.many.length:Int)≤400)&&alls (fun x=>same x.name h.name&&(decide (x.depth=h.depth-1)&&x.isOk)) h.many)))))):=by
 obtain ⟨a,b,c,d⟩:=h;rw [Hit.isOk,Hit.isOks_eq];rfl
theorem fnd_none {α:Type} {D:α→Bool} {l:List α} {k:Nat}:decide (0≤fnd D l k)=!alls (fun x=>!D x) l:=by
 rw [Bool.eq_iff_iff,decide_eq_true_iff,fnd_ge,Bool.not_eq_true',← Bool.not_eq_true,zdT]
 constructor
 ·rintro ⟨x,hx,h⟩ hh
  have:=hh x hx
  rw [h] at this;cases this
 ·intro h
  refine Classical.byContradiction fun hn=>h fun x hx=>?_
  cases hd:D x with
  | false=>rfl
  | true=>exact absurd ⟨x,hx,hd⟩ hn
theorem hitOk_n:∀ (n:Nat) (h:Hit),h.w≤n→h.fit→Tr (fun m=>zd6 m h) h.isOk:=by
 intro n
 induction n with
 | zero=>intro a h;have:=a.w_parts;omega
 | succ n ih =>
   intro h hn hf
   obtain ⟨f1,f2,f3,f4⟩:=hf.parts
   have hw:=h.w_parts
   rw [Hit.isOk_eq]
   refine Tr.step (fun m=>by rw [zd6]) (Tr.bind (implIsName_tr _ f1) ?_)
   cases isNm h.name with
   | false=>exact Tr.tt rfl Tr.val
   | true =>
   refine Tr.ff rfl ?_
   cases decide (h.name.name=dotsN) with
   | true=>exact Tr.tt rfl Tr.val
   | false =>
   refine Tr.ff rfl ?_
   cases decide (h.name.name=zgJ) with
   | true=>exact Tr.tt rfl Tr.val
   | false =>
   refine Tr.ff rfl (Tr.bind (within_tr _ _ _) ?_)
   cases hr:(decide (0≤h.depth)&&decide (h.depth≤3)) with
   | false=>exact Tr.tt rfl Tr.val
   | true =>
   obtain ⟨hr1,hr2⟩:0≤h.depth∧h.depth≤3:=by simpa using hr
   refine Tr.ff rfl ?_
   cases decide (h.depth=0) with
   | true =>
     refine Tr.tt rfl (Tr.bind (zdF _ f2) ?_)
     cases h.one.valid with
     | false=>exact Tr.ff rfl Tr.val
     | true=>exact Tr.tt rfl Tr.val
   | false =>
   refine Tr.ff rfl (Tr.bind (zch _ _) ?_)
   simp only [cond_false,Bool.not_false,Bool.true_and]
   cases same h.one zbQ with
   | false=>exact Tr.ff rfl Tr.val
   | true =>
   refine Tr.tt rfl ?_
   cases decide ((h.many.length:Int)≤400) with
   | false=>exact Tr.ff rfl Tr.val
   | true =>
   refine Tr.tt rfl ?_
   have bad:∀ x∈h.many,Tr (fun m=>zdQ m x h) (!(same x.name h.name&&(decide (x.depth=h.depth-1)&&x.isOk))):=by
    intro x hx
    refine Tr.step (fun m=>by rw [zdQ]) (Tr.bind (zch _ _) ?_)
    cases same x.name h.name with
    | false=>exact Tr.tt rfl Tr.val
    | true =>
    refine Tr.ff rfl (Tr.eq (fun m=>by rw [zaG (by omega)]) ?_)
    by_cases hd:x.depth=h.depth-1
    ·refine Tr.ff (decide_eq_false (fun h=>h hd)) (Tr.bind (ih x (by have:=Hit.ws_mem hx;omega) (Hit.fits_mem f4 hx)) ?_)
     rw [decide_eq_true hd];exact Tr.val
    ·rw [decide_eq_false hd];exact Tr.tt (decide_eq_true hd) Tr.val
   refine Tr.bind (v:=decide (0≤fnd (fun x=>!(same x.name h.name&&(decide (x.depth=h.depth-1)&&x.isOk))) h.many 0)) ?_ (Tr.of fun m=>?_)
   ·refine Tr.step (fun m=>by rw [zaP]) (Tr.bind ?_ Tr.val)
    refine Tr.step (fun m=>by rw [za1]) ?_
    exact zg4 (xs:=h.many) (L:=fun m k=>zaj m h.many h k) (E:=fun m x=>zdQ m x h) (fun m k=>by rw [zaj]) bad
   ·rw [fnd_none,Bool.not_not];simp only [Bool.not_not];rfl
theorem hitOk_tr (h:Hit) (hf:h.fit):Tr (fun m=>zd6 m h) h.isOk:=hitOk_n _ h (Nat.le_refl _) hf
theorem l4Hit_n:∀ (n:Nat) (h:Hit) (x2:Int),h.w≤n→h.w≤2 ^ 36→h.fit→Tr (fun m=>zeV m h x2) (decide (h.depth=x2)&&h.isOk):=by
 intro n
 induction n with
 | zero=>intro a x2 h;have:=a.w_parts;omega
 | succ n ih =>
   intro h x2 hn hb hf
   obtain ⟨f1,f2,f3,f4⟩:=hf.parts
   have hw:=h.w_parts
   rw [Hit.isOk_eq]
   refine Tr.step (fun m=>by rw [zeV]) ?_
   by_cases hd:h.depth=x2
   case neg=>rw [decide_eq_false hd];exact Tr.tt (decide_eq_true hd) Tr.val
   subst hd
   rw [decide_eq_true rfl,Bool.true_and]
   refine Tr.ff (decide_eq_false (fun h=>h rfl)) ?_
   by_cases h0:h.depth < 0
   ·rw [decide_eq_false (show ¬ 0≤h.depth by omega)]
    simp only [Bool.false_and,Bool.and_false]
    exact Tr.tt (decide_eq_true h0) Tr.val
   refine Tr.ff (decide_eq_false h0) ?_
   by_cases h3:3 < h.depth
   ·rw [decide_eq_false (show ¬ h.depth≤3 by omega)]
    simp only [Bool.false_and,Bool.and_false]
    exact Tr.tt (decide_eq_true h3) Tr.val
   refine Tr.ff (decide_eq_false h3) (Tr.bind (l3Is_tr _ f1 (by omega)) ?_)
   rw [decide_eq_true (show 0≤h.depth by omega),decide_eq_true (show h.depth≤3 by omega),Bool.true_and,Bool.true_and]
   cases isNm h.name with
   | false=>exact Tr.tt rfl Tr.val
   | true =>
   refine Tr.ff rfl ?_
   cases decide (h.name.name=dotsN) with
   | true=>exact Tr.tt rfl Tr.val
   | false =>
   refine Tr.ff rfl ?_
   cases decide (h.name.name=zgJ) with
   | true=>exact Tr.tt rfl Tr.val
   | false =>
   refine Tr.ff rfl ?_
   simp only [Bool.not_false,Bool.true_and]
   cases hz:decide (h.depth=0) with
   | true =>
     refine Tr.tt rfl (Tr.bind (zbR _ f2 (by omega)) ?_)
     cases h.one.valid with
     | false=>exact Tr.ff rfl Tr.val
     | true=>exact Tr.tt rfl Tr.val
   | false =>
   refine Tr.ff rfl ?_
   rw [cond_false]
   have key:=zak h.many (fun k zs=>Tr (fun m=>zcP m h h.depth (k:Int)) (alls (fun x=>same x.name h.name&&(decide (x.depth=h.depth-1)&&x.isOk)) zs&&(same h.one zbQ&&decide ((h.many.length:Int)≤400)))) ?_ ?_ 0 (Nat.zero_le _)
   ·have e:(same h.one zbQ&&(decide ((h.many.length:Int)≤400)&&alls (fun x=>same x.name h.name&&(decide (x.depth=h.depth-1)&&x.isOk)) h.many))=(alls (fun x=>same x.name h.name&&(decide (x.depth=h.depth-1)&&x.isOk)) h.many&&(same h.one zbQ&&decide ((h.many.length:Int)≤400))):=by
     rw [← Bool.and_assoc,Bool.and_comm]
    rw [e]
    simpa using key
   ·refine Tr.step (fun m=>by rw [zcP,z6,cond_false]) (Tr.bind (zcL _ _) ?_)
    rw [alls,Bool.true_and]
    cases same h.one zbQ with
    | false=>exact Tr.ff rfl Tr.val
    | true=>exact Tr.tt rfl Tr.val
   ·intro k x zs hk hx hdr ihk
    have hm:=List.mem_of_getElem? hx
    refine Tr.step (fun m=>by rw [zcP,ltN hk,cond_true,zE hx,Option.bind_some,zbp]) (Tr.bind (zcL _ _) ?_)
    rw [alls]
    cases same x.name h.name with
    | false=>exact Tr.tt rfl Tr.val
    | true =>
    refine Tr.ff rfl (Tr.eq (fun m=>by rw [Option.bind_some,zaG (by omega)]) ?_)
    refine Tr.bind (ih x (h.depth-1) (by have:=Hit.ws_mem hm;omega) (by have:=Hit.ws_mem hm;omega) (Hit.fits_mem f4 hm)) ?_
    rw [Bool.true_and]
    cases (decide (x.depth=h.depth-1)&&x.isOk) with
    | false=>exact Tr.tt rfl Tr.val
    | true=>exact Tr.ff rfl (by simpa using ihk)
noncomputable def hvF:List Hit→List Hit→Bool
 | _,[]=>true
 | ps,x::xs=>x.isOk&&(alls (fun y=>!same y.name x.name) ps&&hvF (ps++[x]) xs)
noncomputable def hvOk (l:List Hit):Bool:=hvF [] l&&decide ((l.length:Int)≤20)
theorem ze3 {α:Type} {l:List α} {k:Nat} {x:α} (h:l[k]?=some x):l.take (k+1)=l.take k++[x]:=by
 rw [List.take_add_one,h];rfl
theorem sub_take {α:Type} {l:List α} {k:Nat} (h:k≤l.length):sub l 0 (k:Int)=some (l.take k):=by
 unfold sub
 rw [show (decide ((0:Int)≤0)&&decide ((0:Int)≤k)&&decide ((k:Int)≤l.length))=true by simp;omega,cond_true]
 simp
theorem implHitsValid_tr (l:List Hit) (hf:Hit.fits l):Tr (fun m=>zeB m l) (hvOk l):=by
 refine Tr.eq (fun m=>by unfold zeB;rfl) ?_
 have key:=zak l (fun k zs=>Tr (fun m=>zbA m l (k:Int)) (hvF (l.take k) zs&&decide ((l.length:Int)≤20))) ?_ ?_ 0 (Nat.zero_le _)
 ·simpa [hvOk] using key
 ·exact Tr.step (fun m=>by rw [zbA,z6,cond_false,hvF,Bool.true_and]) Tr.val
 ·intro k x zs hk hx hd ih
  have hm:=List.mem_of_getElem? hx
  rw [ze3 hx] at ih
  refine Tr.step (fun m=>by rw [zbA,ltN hk,cond_true,zE hx,Option.bind_some,zbp]) (Tr.bind (hitOk_tr x (Hit.fits_mem hf hm)) ?_)
  rw [hvF]
  cases x.isOk with
  | false=>exact Tr.tt rfl Tr.val
  | true =>
  refine Tr.ff rfl (Tr.eq (fun m=>by rw [sub_take (by omega),Option.bind_some]) ?_)
  refine Tr.bind (v:=fnd (fun y=>same y.name x.name) (l.take k) 0) ?_ ?_
  ·refine Tr.eq (fun m=>by unfold zeZ;rfl) (Tr.bind ?_ Tr.val)
   refine Tr.eq (fun m=>by unfold za2;rfl) ?_
   exact zg4 (xs:=l.take k) (L:=fun m j=>zQ m (l.take k) x.name j) (E:=fun m y=>zdR m y x.name) (fun m j=>by rw [zQ]) (fun y _=>Tr.eq (fun m=>by unfold zdR;rfl) (Tr.bind (zch _ _) Tr.val))
  ·have e:=fnd_none (D:=fun y:Hit=>same y.name x.name) (l:=l.take k) (k:=0)
   cases ha:alls (fun y=>!same y.name x.name) (l.take k) with
   | false=>rw [ha] at e;exact Tr.tt e Tr.val
   | true=>rw [ha] at e;exact Tr.ff e (by simpa using ih)
theorem specHitsValid_tr (l:List Hit) (hf:Hit.fits l) (hb:Hit.ws l≤2 ^ 36):Tr (fun m=>zev m l) (hvOk l):=by
 refine Tr.eq (fun m=>by unfold zev;rfl) ?_
 have hlen:=Hit.ws_len l
 have key:=zak l (fun k zs=>Tr (fun m=>zbw m l (k:Int)) (hvF (l.take k) zs&&decide ((l.length:Int)≤20))) ?_ ?_ 0 (Nat.zero_le _)
 ·simpa [hvOk] using key
 ·exact Tr.step (fun m=>by rw [zbw,z6,cond_false,hvF,Bool.true_and]) Tr.val
 ·intro k x zs hk hx hd ih
  have hm:=List.mem_of_getElem? hx
  rw [ze3 hx] at ih
  refine Tr.step (fun m=>by rw [zbw,ltN hk,cond_true]) ?_
  by_cases h20:k≤20
  case neg =>
   refine Tr.ff (decide_eq_false (by omega)) (Tr.of fun m=>?_)
   rw [decide_eq_false (show ¬ (l.length:Int)≤20 by omega),Bool.and_false]
  refine Tr.tt (decide_eq_true (by omega)) (Tr.eq (fun m=>by rw [zE hx,Option.bind_some,Option.bind_some]) ?_)
  refine Tr.bind (l4Hit_n _ x x.depth (Nat.le_refl _) (by have:=Hit.ws_mem hm;omega) (Hit.fits_mem hf hm)) ?_
  rw [decide_eq_true rfl,Bool.true_and,hvF]
  cases x.isOk with
  | false=>exact Tr.tt rfl Tr.val
  | true =>
  refine Tr.ff rfl ?_
  have htl:(l.take k).length=k:=by simp;omega
  have inner:=zak (l.take k) (fun j ws=>Tr (fun m=>zbv m l (k:Int) (j:Int)) (alls (fun y=>!same y.name x.name) ws&&(hvF (l.take k++[x]) zs&&decide ((l.length:Int)≤20)))) ?_ ?_ 0 (Nat.zero_le _)
  ·rw [Bool.true_and,Bool.and_assoc];simpa using inner
  ·rw [htl]
   exact Tr.step (fun m=>by rw [zbv,z6,cond_false,zaG (by omega),zbp]) (by simpa [alls] using ih)
  ·intro j y ws hj hy hdj ihj
   rw [htl] at hj
   have hy':l[j]?=some y:=by
    rw [List.getElem?_take] at hy
    rwa [if_pos hj] at hy
   refine Tr.step (fun m=>by rw [zbv,ltN hj,cond_true,zE hy',Option.bind_some,zE hx,Option.bind_some,zaG (by omega),zbp]) (Tr.bind (zcL _ _) ?_)
   rw [alls]
   cases same y.name x.name with
   | true=>exact Tr.tt rfl Tr.val
   | false=>exact Tr.ff rfl (by simpa using ihj)
end Go.Abs
end
section
set_option linter.unusedVariables false
set_option linter.unusedSimpArgs false
namespace Go.Abs
def zK (f:Form):Bool:=decide (f.kind=1)&&decide (f.name=dotsN)
theorem zhd (f:Form) (s:ByteArray):Tr (fun m=>zcw m f s) (decide (f.kind=1)&&decide (f.name=s)) :=
 Tr.of (fun m=>by unfold zcw;rw [bif_and])
theorem zeC (f:Form):Tr (fun m=>zaV m f) (zK f) :=
 Tr.of (fun m=>by unfold zaV zK;rw [bif_and])
noncomputable def depF:List (Form × Int)→Form→Int
 | [],_=>-1
 | p::ps,f=>bif same p.1 f then p.2 else depF ps f
noncomputable def dep (l:List (Form × Int)) (f:Form):Int:=bif decide (f.kind≠1) then -1 else depF l f
theorem fnd_dep (f:Form):∀ (l:List (Form × Int)) (k:Nat),(fnd (fun y=>same y f) (l.map (·.1)) k=-1∧depF l f=-1)∨(∃ i,fnd (fun y=>same y f) (l.map (·.1)) k=((k+i:Nat):Int)∧(l.map (·.2))[i]?=some (depF l f))
 | [],k=>.inl ⟨rfl,rfl⟩
 | p::ps,k=>by
   rw [List.map_cons,fnd,depF]
   cases h:same p.1 f with
   | true=>exact .inr ⟨0,rfl,rfl⟩
   | false =>
     simp only [cond_false]
     rcases fnd_dep f ps (k+1) with h | ⟨i,h1,h2⟩
     ·exact .inl h
     ·exact .inr ⟨i+1,by rw [h1];omega,by simpa using h2⟩
theorem depthIn_tr (l:List (Form × Int)) (f:Form):Tr (fun m=>zeI m (l.map (·.1)) (l.map (·.2)) f) (dep l f):=by
 refine Tr.eq (fun m=>by unfold zeI;rfl) ?_
 unfold dep
 cases decide (f.kind≠1) with
 | true=>exact Tr.tt rfl Tr.val
 | false =>
 refine Tr.ff rfl (Tr.bind (v:=fnd (fun y=>same y f) (l.map (·.1)) 0) ?_ ?_)
 ·refine Tr.eq (fun m=>by unfold zbn;rfl) ?_
  exact zg4 (L:=fun m j=>zad m (l.map (·.1)) f j) (E:=fun m y=>zez m y f) (fun m j=>by rw [zad]) (fun y _=>Tr.eq (fun m=>by unfold zez;rfl) (Tr.bind (zch _ _) Tr.val))
 ·rcases fnd_dep f l 0 with ⟨h1,h2⟩ | ⟨i,h1,h2⟩
  ·rw [h1,h2];exact Tr.tt rfl Tr.val
  ·rw [h1,Nat.zero_add]
   exact Tr.ff (decide_eq_false (by omega)) (Tr.eq (fun m=>by rw [zE h2,Option.bind_some];rfl) Tr.val)
def nd (l:List Hit):List (Form × Int):=l.map fun h=>(h.name,h.depth)
theorem nd_fst (l:List Hit):(nd l).map (·.1)=l.map Hit.name:=by simp [nd]
theorem nd_snd (l:List Hit):(nd l).map (·.2)=l.map Hit.depth:=by simp [nd]
theorem fnd_map {α β:Type} (g:α→β) (D:β→Bool):∀ (l:List α) (k:Nat),fnd D (l.map g) k=fnd (fun x=>D (g x)) l k
 | [],k=>rfl
 | x::xs,k=>by rw [List.map_cons,fnd,fnd,fnd_map g D xs]
theorem l5Depth_tr (l:List Hit) (f:Form):Tr (fun m=>zeE m l f) (dep (nd l) f):=by
 refine Tr.eq (fun m=>by unfold zeE;rfl) ?_
 unfold dep
 cases decide (f.kind≠1) with
 | true=>exact Tr.tt rfl Tr.val
 | false =>
 refine Tr.ff rfl (Tr.bind (v:=fnd (fun y=>same y f) ((nd l).map (·.1)) 0) ?_ ?_)
 ·refine Tr.eq (fun m=>by unfold zd9;rfl) ?_
  rw [nd_fst,fnd_map]
  exact zg4 (L:=fun m j=>zbU m l f j) (E:=fun m y=>zav m y.name f) (fun m j=>by rw [zbU]) (fun y _=>zcL _ _)
 ·rcases fnd_dep f (nd l) 0 with ⟨h1,h2⟩ | ⟨i,h1,h2⟩
  ·rw [h1,h2];exact Tr.tt rfl Tr.val
  ·rw [h1,Nat.zero_add]
   rw [nd_snd,List.getElem?_map,Option.map_eq_some_iff] at h2
   obtain ⟨y,hy,h2⟩:=h2
   exact Tr.ff (decide_eq_false (by omega)) (Tr.eq (fun m=>by rw [zE hy,Option.bind_some,h2];rfl) Tr.val)
def zbM:List Form→Bool
 | []=>false
 | y::_=>zK y
mutual
def Form.dotsOk (one:Bool):Form→Bool
 | .mk _ _ _ _ kids=>Form.kD one true false kids
def Form.kD (one:Bool):Bool→Bool→List Form→Bool
 | _,_,[]=>true
 | pd,sn,x::xs=>(bif zK x then (!pd&&!(one&&sn)) else x.dotsOk one)&&Form.kD one (zK x) (sn||zK x) xs
end
theorem Form.dotsOk_eq (one:Bool) (f:Form):f.dotsOk one=Form.kD one true false f.kids:=by obtain ⟨a,b,c,d,e⟩:=f;rw [Form.dotsOk];rfl
def pdAt (l:List Form):Nat→Bool
 | 0=>true
 | j+1=>match l[j]? with
   | some y=>zK y
   | none=>true
theorem pd_succ {l:List Form} {k:Nat} {x:Form} (h:l[k]?=some x):pdAt l (k+1)=zK x:=by rw [pdAt,h]
theorem dotsOk_n (one:Bool):∀ (n:Nat) (f:Form),f.w≤n→f.w≤2 ^ 36→Tr (fun m=>zdL m f one) (f.dotsOk one):=by
 intro n
 induction n with
 | zero=>intro a h;have:=a.w_pos;omega
 | succ n ih =>
   intro f h hb
   have hw:=f.w_kids
   have hlen:=Form.ws_len f.kids
   rw [Form.dotsOk_eq]
   refine Tr.step (fun m=>by rw [zdL]) ?_
   have key:=zak f.kids (fun k zs=>Tr (fun m=>zbE m f one (k:Int)) (Form.kD one (pdAt f.kids k) (!alls (fun y=>!zK y) (f.kids.take k)) zs)) ?_ ?_ 0 (Nat.zero_le _)
   ·simpa [pdAt,alls] using key
   ·exact Tr.step (fun m=>by rw [zbE,z6,cond_false,Form.kD]) Tr.val
   ·intro k x zs hk hx hd ihk
    have hm:=List.mem_of_getElem? hx
    have hxw:=Form.ws_mem hm
    rw [pd_succ hx,ze3 hx] at ihk
    have ea:∀ l:List Form,(!alls (fun y=>!zK y) (l++[x]))=((!alls (fun y=>!zK y) l)||zK x):=by
     intro l
     induction l with
     | nil=>simp [alls]
     | cons y l ihl=>rw [List.cons_append,alls,alls,Bool.not_and,ihl,Bool.not_and,Bool.or_assoc]
    rw [ea] at ihk
    refine Tr.step (fun m=>by rw [zbE,ltN hk,cond_true,zE hx,Option.bind_some,zbp]) (Tr.bind (zhd _ _) ?_)
    rw [show (decide (x.kind=1)&&decide (x.name=(⟨#[46,46,46]⟩:ByteArray)))=zK x from rfl,Form.kD]
    cases hxd:zK x with
    | false =>
      rw [hxd] at ihk
      refine Tr.ff rfl (Tr.bind (ih x (by omega) (by omega)) ?_)
      rw [cond_false]
      cases x.dotsOk one with
      | false=>exact Tr.tt rfl Tr.val
      | true=>exact Tr.ff rfl (by simpa using ihk)
    | true =>
      rw [hxd] at ihk
      refine Tr.tt rfl ?_
      rw [cond_true]
      cases k with
      | zero=>exact Tr.tt rfl Tr.val
      | succ j =>
        have hj:f.kids[j]?=some f.kids[j]:=List.getElem?_eq_getElem (by omega)
        refine Tr.ff (decide_eq_false (by omega)) (Tr.eq (fun m=>by rw [zaG (by omega),show ((j+1:Nat):Int)-1=(j:Int) by omega,zE hj,Option.bind_some]) (Tr.bind (zhd _ _) ?_))
        rw [show (decide (f.kids[j].kind=1)&&decide (f.kids[j].name=(⟨#[46,46,46]⟩:ByteArray)))=zK f.kids[j] from rfl,pd_succ hj]
        cases zK f.kids[j] with
        | true=>exact Tr.tt rfl Tr.val
        | false =>
        refine Tr.ff rfl ?_
        cases one with
        | false=>exact Tr.ff rfl (by simpa using ihk)
        | true =>
          refine Tr.tt rfl (Tr.eq (fun m=>by rw [sub_take (by omega),Option.bind_some]) ?_)
          refine Tr.bind (v:=fnd zK (f.kids.take (j+1)) 0) ?_ ?_
          ·refine Tr.eq (fun m=>by unfold zgX;rfl) (Tr.bind ?_ Tr.val)
           refine Tr.eq (fun m=>by unfold zbr;rfl) ?_
           exact zg4 (L:=fun m i=>zae m (f.kids.take (j+1)) i) (E:=fun m y=>ze0 m y) (fun m i=>by rw [zae]) (fun y _=>Tr.eq (fun m=>by unfold ze0;rfl) (Tr.bind (zhd _ _) Tr.val))
          ·have e:=fnd_none (D:=zK) (l:=f.kids.take (j+1)) (k:=0)
           cases ha:alls (fun y=>!zK y) (f.kids.take (j+1)) with
           | false=>rw [ha] at e;exact Tr.tt e Tr.val
           | true=>rw [ha] at e ihk;exact Tr.ff e (by simpa using ihk)
theorem dotsOk_tr (one:Bool) (f:Form) (hb:f.w≤2 ^ 36):Tr (fun m=>zdL m f one) (f.dotsOk one):=dotsOk_n one _ f (Nat.le_refl _) hb
end Go.Abs
end
section
set_option linter.unusedVariables false
set_option linter.unusedSimpArgs false
namespace Go.Abs
mutual
noncomputable def Form.anyD (l:List (Form × Int)) (v:Int):Form→Bool
 | .mk k nm n sc kids=>decide (v < dep l (.mk k nm n sc kids))||Form.anyDs l v kids
noncomputable def Form.anyDs (l:List (Form × Int)) (v:Int):List Form→Bool
 | []=>false
 | x::xs=>x.anyD l v||Form.anyDs l v xs
end
theorem Form.anyD_eq (l:List (Form × Int)) (v:Int) (f:Form):f.anyD l v=(decide (v < dep l f)||Form.anyDs l v f.kids):=by obtain ⟨a,b,c,d,e⟩:=f;rw [Form.anyD];rfl
theorem each_n (l:List (Form × Int)) (v:Int):∀ (n:Nat) (f:Form) (b:Bool),f.w≤n→Tr (fun m=>za0 m f b (l.map (·.1)) (l.map (·.2)) v) (b||f.anyD l v):=by
 intro n
 induction n with
 | zero=>intro a b h;have:=a.w_pos;omega
 | succ n ih =>
   intro f b h
   have hw:=f.w_kids
   rw [Form.anyD_eq]
   refine Tr.step (fun m=>by rw [za0]) (Tr.bind (v:=b||decide (v < dep l f)) ?_ ?_)
   ·refine Tr.eq (fun m=>by unfold zf7;rfl) ?_
    cases b with
    | true=>exact Tr.tt rfl Tr.val
    | false=>exact Tr.ff rfl (Tr.bind (depthIn_tr l f) Tr.val)
   ·have key:=zak f.kids (fun k zs=>∀ b:Bool,Tr (fun m=>zaw m f (l.map (·.1)) (l.map (·.2)) v (k:Int) b) (b||Form.anyDs l v zs)) ?_ ?_ 0 (Nat.zero_le _) (b||decide (v < dep l f))
    ·rw [← Bool.or_assoc];simpa using key
    ·intro b;exact Tr.step (fun m=>by rw [zaw,z6,cond_false,Form.anyDs,Bool.or_false]) Tr.val
    ·intro k x zs hk hx hd ihk b
     have hm:=Form.ws_mem (List.mem_of_getElem? hx)
     refine Tr.step (fun m=>by rw [zaw,ltN hk,cond_true,zE hx,Option.bind_some,zbp]) (Tr.bind (ih x b (by omega)) ?_)
     rw [Form.anyDs,← Bool.or_assoc]
     exact ihk _
def lessI (k:Nat) (d:Int):Int:=bif decide (0 < d) then (bif decide ((k:Int) < d) then d-k else 0) else d
theorem lessI_pos (k:Nat) (d:Int):(0 < lessI k d)↔(k:Int) < d:=by
 unfold lessI
 by_cases h:0 < d
 ·rw [decide_eq_true h,cond_true]
  by_cases h2:(k:Int) < d
  ·rw [decide_eq_true h2,cond_true];omega
  ·rw [decide_eq_false h2,cond_false];omega
 ·rw [decide_eq_false h,cond_false];omega
theorem lessI_succ (k:Nat) (d:Int):lessI (k+1) d=bif decide (0 < lessI k d) then lessI k d-1 else lessI k d:=by
 unfold lessI
 by_cases h:0 < d
 ·rw [decide_eq_true h,cond_true,cond_true]
  by_cases h2:(k:Int) < d
  ·rw [decide_eq_true h2,cond_true,decide_eq_true (show 0 < d-(k:Int) by omega),cond_true]
   by_cases h3:((k+1:Nat):Int) < d
   ·rw [decide_eq_true h3,cond_true];omega
   ·rw [decide_eq_false h3,cond_false];omega
  ·rw [decide_eq_false h2,cond_false,decide_eq_false (show ¬ ((k+1:Nat):Int) < d by omega),cond_false];rfl
 ·rw [decide_eq_false h,cond_false,cond_false,decide_eq_false h,cond_false]
theorem lessI_zero (d:Int):lessI 0 d=d:=by
 unfold lessI
 by_cases h:0 < d
 ·rw [decide_eq_true h,cond_true,decide_eq_true (show ((0:Nat):Int) < d by omega),cond_true];omega
 ·rw [decide_eq_false h,cond_false]
def rowOf (h:Hit):Hit:=Hit.mk h.name (bif decide (0 < h.depth) then h.depth-1 else h.depth) h.one ([]:List Hit)
theorem l5Less_tr (l:List Hit) (hl:l.length≤2 ^ 36) (hd:∀ h∈l,-9223372036854775808≤h.depth∧h.depth≤9223372036854775807):Tr (fun m=>zfW m l) (l.map rowOf):=by
 refine Tr.eq (fun m=>by unfold zfW;rfl) ?_
 have key:=zak l (fun k zs=>Tr (fun m=>zbS m l ((l.take k).map rowOf) (k:Int)) (l.map rowOf)) ?_ ?_ 0 (Nat.zero_le _)
 ·simpa using key
 ·exact Tr.step (fun m=>by rw [zbS,z6,cond_false];simp) Tr.val
 ·intro k x zs hk hx hdr ih
  have hlk:((l.take k).map rowOf).length=k:=by simp;omega
  rw [ze3 hx,List.map_append] at ih
  obtain ⟨d1,d2⟩:=hd x (List.mem_of_getElem? hx)
  refine Tr.step (fun m=>by rw [zbS,ltN hk,cond_true,zE hx,Option.bind_some,Option.bind_some,Option.bind_some,zbp]) ?_
  by_cases h:0 < x.depth
  ·refine Tr.tt (decide_eq_true h) (Tr.chk (decide_eq_true (by rw [hlk];simp only [List.length_cons,List.length_nil];omega)) ?_)
   rw [show List.map rowOf [x]=[Hit.mk x.name (x.depth-1) x.one []] by simp [rowOf,h]] at ih
   exact Tr.eq (fun m=>by rw [zaG (by omega)]) ih
  ·refine Tr.ff (decide_eq_false h) (Tr.chk (decide_eq_true (by rw [hlk];simp only [List.length_cons,List.length_nil];omega)) ?_)
   rw [show List.map rowOf [x]=[Hit.mk x.name x.depth x.one []] by simp [rowOf,h]] at ih
   exact ih
theorem depF_row (f:Form):∀ l:List Hit,depF (nd (l.map rowOf)) f=bif decide (0 < depF (nd l) f) then depF (nd l) f-1 else depF (nd l) f
 | []=>rfl
 | h::hs=>by
   have ih:=depF_row f hs
   simp only [nd,List.map_cons,List.map_map] at ih ⊢
   rw [depF,depF]
   show (bif same h.name f then _ else _)=_
   simp only
   cases same h.name f with
   | true=>rfl
   | false=>simp only [cond_false];exact ih
theorem dep_row (f:Form) (l:List Hit):dep (nd (l.map rowOf)) f=bif decide (0 < dep (nd l) f) then dep (nd l) f-1 else dep (nd l) f:=by
 unfold dep
 cases decide (f.kind≠1) with
 | true=>rfl
 | false=>simp only [cond_false];exact depF_row f l
structure RowK (k:Nat) (l' l:List Hit):Prop where
 dep:∀ f,Abs.dep (nd l') f=lessI k (Abs.dep (nd l) f)
 len:l'.length=l.length
 fit:∀ h∈l',-9223372036854775808≤h.depth∧h.depth≤9223372036854775807
theorem RowK.zero {l:List Hit} (h:∀ h∈l,-9223372036854775808≤h.depth∧h.depth≤9223372036854775807):RowK 0 l l:=⟨fun f=>(lessI_zero _).symm,rfl,h⟩
theorem RowK.succ {k:Nat} {l' l:List Hit} (h:RowK k l' l):RowK (k+1) (l'.map rowOf) l:=by
 refine ⟨fun f=>by rw [dep_row,h.dep f,lessI_succ],by rw [List.length_map,h.len],fun y hy=>?_⟩
 obtain ⟨x,hx,rfl⟩:=List.mem_map.1 hy
 obtain ⟨h1,h2⟩:=h.fit x hx
 show -9223372036854775808≤(bif decide (0 < x.depth) then x.depth-1 else x.depth)∧(bif decide (0 < x.depth) then x.depth-1 else x.depth)≤9223372036854775807
 by_cases h0:0 < x.depth
 ·rw [decide_eq_true h0,cond_true];omega
 ·rw [decide_eq_false h0,cond_false];exact ⟨h1,h2⟩
theorem RowK.pos {k:Nat} {l' l:List Hit} (h:RowK k l' l) (f:Form):decide (0 < Abs.dep (nd l') f)=decide ((k:Int) < Abs.dep (nd l) f):=by
 rw [h.dep f,Bool.eq_iff_iff,decide_eq_true_iff,decide_eq_true_iff];exact lessI_pos k _
theorem l5Rows_n {k:Nat} {l' l:List Hit} (hr:RowK k l' l):∀ (n:Nat) (f:Form),f.w≤n→Tr (fun m=>zd8 m l' f) (f.anyD (nd l) k):=by
 intro n
 induction n with
 | zero=>intro a h;have:=a.w_pos;omega
 | succ n ih =>
   intro f h
   have hw:=f.w_kids
   rw [Form.anyD_eq]
   refine Tr.step (fun m=>by rw [zd8]) (Tr.bind (l5Depth_tr l' f) ?_)
   rw [← hr.pos f]
   cases h0:decide (0 < Abs.dep (nd l') f) with
   | true=>exact Tr.tt rfl Tr.val
   | false =>
   refine Tr.ff rfl ?_
   rw [Bool.false_or]
   have key:=zak f.kids (fun j zs=>Tr (fun m=>zck m l' f (j:Int)) (Form.anyDs (nd l) k zs)) ?_ ?_ 0 (Nat.zero_le _)
   ·simpa using key
   ·exact Tr.step (fun m=>by rw [zck,z6,cond_false,Form.anyDs]) Tr.val
   ·intro j x zs hk hx hd ihk
    have hm:=Form.ws_mem (List.mem_of_getElem? hx)
    refine Tr.step (fun m=>by rw [zck,ltN hk,cond_true,zE hx,Option.bind_some,zbp]) (Tr.bind (ih x (by omega)) ?_)
    rw [Form.anyDs]
    cases x.anyD (nd l) k with
    | true=>exact Tr.tt rfl Tr.val
    | false=>exact Tr.ff rfl ihk
mutual
noncomputable def Form.rws (l:List (Form × Int)):Nat→Form→Bool
 | v,.mk k nm n sc kids=>!decide ((v:Int) < dep l (.mk k nm n sc kids))&&Form.kR l v kids
noncomputable def Form.kR (l:List (Form × Int)):Nat→List Form→Bool
 | _,[]=>true
 | v,x::xs=>(bif zK x then true else bif zbM xs then (x.anyD l v&&x.rws l (v+1)) else x.rws l v)&&Form.kR l v xs
end
theorem Form.rws_eq (l:List (Form × Int)) (v:Nat) (f:Form):f.rws l v=(!decide ((v:Int) < dep l f)&&Form.kR l v f.kids):=by obtain ⟨a,b,c,d,e⟩:=f;rw [Form.rws];rfl
theorem next_get {l:List Form} {k:Nat} {x:Form} {zs:List Form} (hd:l.drop k=x::zs):(zs=[]∧l.length=k+1)∨(∃ y ys,zs=y::ys∧l[k+1]?=some y∧k+1 < l.length):=by
 have hl:l.length=k+(x::zs).length:=by
  have:=congrArg List.length hd
  rw [List.length_drop] at this
  have:(x::zs).length≠0:=by simp
  omega
 cases zs with
 | nil=>exact .inl ⟨rfl,by simpa using hl⟩
 | cons y ys =>
   refine .inr ⟨y,ys,rfl,?_,by rw [hl];simp⟩
   have:(l.drop k)[1]?=some y:=by rw [hd];rfl
   rwa [List.getElem?_drop] at this
theorem rowsOk_n (l:List (Form × Int)):∀ (n:Nat) (f:Form) (v:Nat),f.w≤n→f.w+v≤2 ^ 37→Tr (fun m=>zcI m f (l.map (·.1)) (l.map (·.2)) (v:Int)) (f.rws l v):=by
 intro n
 induction n with
 | zero=>intro a v h;have:=a.w_pos;omega
 | succ n ih =>
   intro f v h hb
   have hw:=f.w_kids
   have hlen:=Form.ws_len f.kids
   rw [Form.rws_eq]
   refine Tr.step (fun m=>by rw [zcI]) (Tr.bind (depthIn_tr l f) ?_)
   cases h0:decide ((v:Int) < dep l f) with
   | true=>exact Tr.tt rfl Tr.val
   | false =>
   refine Tr.ff rfl ?_
   rw [Bool.not_false,Bool.true_and]
   have key:=zak f.kids (fun k zs=>Tr (fun m=>zaX m f (l.map (·.1)) (l.map (·.2)) (v:Int) (k:Int)) (Form.kR l v zs)) ?_ ?_ 0 (Nat.zero_le _)
   ·simpa using key
   ·exact Tr.step (fun m=>by rw [zaX,z6,cond_false,Form.kR]) Tr.val
   ·intro k x zs hk hx hd ihk
    have hm:=Form.ws_mem (List.mem_of_getElem? hx)
    refine Tr.step (fun m=>by rw [zaX,ltN hk,cond_true,zE hx,Option.bind_some,zbp]) (Tr.bind (zhd _ _) ?_)
    rw [show (decide (x.kind=1)&&decide (x.name=(⟨#[46,46,46]⟩:ByteArray)))=zK x from rfl,Form.kR]
    cases zK x with
    | true=>exact Tr.tt rfl ihk
    | false =>
    refine Tr.ff rfl ?_
    rw [cond_false]
    have plain:Tr (fun m=>(zcI m x (l.map (·.1)) (l.map (·.2)) (v:Int)).bind fun v20=>bif (!v20) then some false else zaX m f (l.map (·.1)) (l.map (·.2)) (v:Int) ((k+1:Nat):Int)) (x.rws l v&&Form.kR l v zs):=by
     refine Tr.bind (ih x v (by omega) (by omega)) ?_
     cases x.rws l v with
     | false=>exact Tr.tt rfl Tr.val
     | true=>exact Tr.ff rfl (by simpa using ihk)
    rcases next_get hd with ⟨rfl,hl⟩ | ⟨y,ys,rfl,hy,hl⟩
    ·exact Tr.ff (decide_eq_false (by omega)) plain
    ·refine Tr.tt (decide_eq_true (by omega)) (Tr.eq (fun m=>by rw [zE hy,Option.bind_some]) (Tr.bind (zhd _ _) ?_))
     rw [show (decide (y.kind=1)&&decide (y.name=(⟨#[46,46,46]⟩:ByteArray)))=zK y from rfl,zbM]
     cases zK y with
     | false=>exact Tr.ff rfl plain
     | true =>
     refine Tr.tt rfl (Tr.bind (each_n l v _ x false (Nat.le_refl _)) ?_)
     rw [Bool.false_or,cond_true]
     cases x.anyD l v with
     | false=>exact Tr.tt rfl Tr.val
     | true =>
     refine Tr.ff rfl (Tr.eq (fun m=>by rw [zaG (by omega),zbp]) (Tr.bind (ih x (v+1) (by omega) (by omega)) ?_))
     rw [Bool.true_and]
     cases x.rws l (v+1) with
     | false=>exact Tr.tt rfl Tr.val
     | true=>exact Tr.ff rfl (by simpa using ihk)
mutual
noncomputable def Form.isT (l:List (Form × Int)):Nat→Form→Bool
 | v,.mk k nm n sc kids=>!zK (.mk k nm n sc kids)&&(!decide ((v:Int) < dep l (.mk k nm n sc kids))&&Form.kT l v true kids)
noncomputable def Form.kT (l:List (Form × Int)):Nat→Bool→List Form→Bool
 | _,_,[]=>true
 | v,pd,x::xs=>(bif zK x then !pd else bif zbM xs then (x.anyD l v&&x.isT l (v+1)) else x.isT l v)&&Form.kT l v (zK x) xs
end
theorem Form.isT_eq (l:List (Form × Int)) (v:Nat) (f:Form):f.isT l v=(!zK f&&(!decide ((v:Int) < dep l f)&&Form.kT l v true f.kids)):=by obtain ⟨a,b,c,d,e⟩:=f;rw [Form.isT];rfl
mutual
theorem Form.isT_two (l:List (Form × Int)):∀ (f:Form) (v:Nat),f.isT l v=(!zK f&&(f.dotsOk false&&f.rws l v))
 | .mk k nm n sc kids,v=>by
   have:=Form.kT_two l kids v true false
   rw [Form.isT,Form.dotsOk,Form.rws,this]
   cases zK (.mk k nm n sc kids)<;>cases decide ((v:Int) < dep l (.mk k nm n sc kids))<;>cases Form.kD false true false kids<;>rfl
theorem Form.kT_two (l:List (Form × Int)):∀ (zs:List Form) (v:Nat) (pd sn:Bool),Form.kT l v pd zs=(Form.kD false pd sn zs&&Form.kR l v zs)
 | [],v,pd,sn=>by rw [Form.kT,Form.kD,Form.kR];rfl
 | x::xs,v,pd,sn=>by
   have h1:=Form.isT_two l x v
   have h2:=Form.isT_two l x (v+1)
   have h3:=Form.kT_two l xs v (zK x) (sn||zK x)
   rw [Form.kT,Form.kD,Form.kR,h1,h2,h3]
   cases zK x<;>cases zbM xs<;>cases pd<;>cases x.dotsOk false<;>cases x.anyD l v<;>cases x.rws l v<;>cases x.rws l (v+1)<;>simp
end
theorem l5Is_n (l:List Hit) (hll:l.length≤2 ^ 36):∀ (n:Nat) (f:Form) (v:Nat) (l':List Hit),f.w≤n→f.w≤2 ^ 36→RowK v l' l→Tr (fun m=>zdq m f l') (f.isT (nd l) v):=by
 intro n
 induction n with
 | zero=>intro a v l' h;have:=a.w_pos;omega
 | succ n ih =>
   intro f v l' h hb hr
   have hw:=f.w_kids
   have hlen:=Form.ws_len f.kids
   rw [Form.isT_eq]
   refine Tr.step (fun m=>by rw [zdq]) (Tr.bind (zeC f) ?_)
   cases zK f with
   | true=>exact Tr.tt rfl Tr.val
   | false =>
   refine Tr.ff rfl (Tr.bind (l5Depth_tr l' f) ?_)
   rw [← hr.pos f]
   cases h0:decide (0 < Abs.dep (nd l') f) with
   | true=>exact Tr.tt rfl Tr.val
   | false =>
   refine Tr.ff rfl ?_
   simp only [Bool.not_false,Bool.true_and]
   have key:=zak f.kids (fun k zs=>Tr (fun m=>zbB m f l' (k:Int)) (Form.kT (nd l) v (pdAt f.kids k) zs)) ?_ ?_ 0 (Nat.zero_le _)
   ·simpa [pdAt] using key
   ·exact Tr.step (fun m=>by rw [zbB,z6,cond_false,Form.kT]) Tr.val
   ·intro k x zs hk hx hd ihk
    have hm:=Form.ws_mem (List.mem_of_getElem? hx)
    rw [pd_succ hx] at ihk
    refine Tr.step (fun m=>by rw [zbB,ltN hk,cond_true,zE hx,Option.bind_some,zbp]) (Tr.bind (zeC x) ?_)
    rw [Form.kT]
    cases hxd:zK x with
    | true =>
      rw [hxd] at ihk
      refine Tr.tt rfl ?_
      rw [cond_true]
      cases k with
      | zero=>exact Tr.tt rfl Tr.val
      | succ j =>
        have hj:f.kids[j]?=some f.kids[j]:=List.getElem?_eq_getElem (by omega)
        refine Tr.ff (decide_eq_false (by omega)) (Tr.eq (fun m=>by rw [zaG (by omega),show ((j+1:Nat):Int)-1=(j:Int) by omega,zE hj,Option.bind_some]) (Tr.bind (zeC _) ?_))
        rw [pd_succ hj]
        cases zK f.kids[j] with
        | true=>exact Tr.tt rfl Tr.val
        | false=>exact Tr.ff rfl (by simpa using ihk)
    | false =>
      rw [hxd] at ihk
      refine Tr.ff rfl ?_
      rw [cond_false]
      have plain:Tr (fun m=>(zdq m x l').bind fun v28=>bif (!v28) then some false else zbB m f l' ((k+1:Nat):Int)) (x.isT (nd l) v&&Form.kT (nd l) v false zs):=by
       refine Tr.bind (ih x v l' (by omega) (by omega) hr) ?_
       cases x.isT (nd l) v with
       | false=>exact Tr.tt rfl Tr.val
       | true=>exact Tr.ff rfl (by simpa using ihk)
      rcases next_get hd with ⟨rfl,hl⟩ | ⟨y,ys,rfl,hy,hl⟩
      ·exact Tr.ff (decide_eq_false (by omega)) (Tr.eq (fun m=>by rw [Option.bind_some]) plain)
      ·refine Tr.tt (decide_eq_true (by omega)) (Tr.eq (fun m=>by rw [zE hy,Option.bind_some]) (Tr.bind (zeC y) ?_))
       rw [zbM]
       cases zK y with
       | false=>exact Tr.ff rfl (Tr.eq (fun m=>by rw [Option.bind_some]) plain)
       | true =>
       refine Tr.tt rfl (Tr.eq (fun m=>by rw [Option.bind_some]) (Tr.bind (l5Rows_n hr _ x (Nat.le_refl _)) ?_))
       rw [cond_true]
       cases x.anyD (nd l) v with
       | false=>exact Tr.tt rfl Tr.val
       | true =>
       refine Tr.ff rfl (Tr.eq (fun m=>by rw [Option.bind_some]) (Tr.bind (l5Less_tr l' (by rw [hr.len];exact hll) hr.fit) (Tr.bind (ih x (v+1) _ (by omega) (by omega) hr.succ) ?_)))
       rw [Bool.true_and]
       cases x.isT (nd l) (v+1) with
       | false=>exact Tr.tt rfl Tr.val
       | true=>exact Tr.ff rfl (by simpa using ihk)
end Go.Abs
end
section
set_option linter.unusedVariables false
set_option linter.unusedSimpArgs false
namespace Go.Abs
theorem hvF_mem:∀ {zs ps:List Hit},hvF ps zs=true→∀ x∈zs,x.isOk=true
 | z::zs,ps,h,x,hx=>by
   rw [hvF,Bool.and_eq_true,Bool.and_eq_true] at h
   rcases List.mem_cons.1 hx with rfl | hx
   ·exact h.1
   ·exact hvF_mem h.2.2 x hx
theorem hvOk_depth {l:List Hit} (h:hvOk l=true):∀ x∈l,0≤x.depth∧x.depth≤3:=fun x hx=>by
 unfold hvOk at h
 rw [Bool.and_eq_true] at h
 have:=hvF_mem h.1 x hx
 rw [Hit.isOk_eq] at this
 simp only [Bool.and_eq_true,decide_eq_true_eq] at this
 exact this.2.2.2.1
noncomputable def zge (f:Form) (l:List (Form × Int)):Bool:=f.valid&&(!zK f&&(f.dotsOk false&&f.rws l 0))
theorem templateOk_tr (f:Form) (l:List (Form × Int)) (hf:f.fit) (hb:f.w≤2 ^ 36):Tr (fun m=>zdY m f (l.map (·.1)) (l.map (·.2))) (zge f l):=by
 refine Tr.eq (fun m=>by unfold zdY;rfl) (Tr.bind (zdF f hf) ?_)
 unfold zge
 cases f.valid with
 | false=>exact Tr.ff rfl Tr.val
 | true =>
 refine Tr.tt rfl (Tr.bind (zhd _ _) ?_)
 rw [show (decide (f.kind=1)&&decide (f.name=(⟨#[46,46,46]⟩:ByteArray)))=zK f from rfl]
 cases zK f with
 | true=>exact Tr.ff rfl Tr.val
 | false =>
 refine Tr.tt rfl (Tr.bind (dotsOk_tr false f hb) ?_)
 cases f.dotsOk false with
 | false=>exact Tr.ff rfl Tr.val
 | true=>exact Tr.tt rfl (Tr.bind (rowsOk_n l _ f 0 (Nat.le_refl _) (by omega)) Tr.val)
theorem hitVars_tr (l:List Hit) (hl:l.length≤2 ^ 36):Tr (fun m=>zfp m l) (l.map Hit.name,l.map Hit.depth):=by
 refine Tr.eq (fun m=>by unfold zfp;rfl) ?_
 have key:=zak l (fun k zs=>Tr (fun m=>zb5 m l ((l.take k).map Hit.name) ((l.take k).map Hit.depth) (k:Int)) (l.map Hit.name,l.map Hit.depth)) ?_ ?_ 0 (Nat.zero_le _)
 ·simpa using key
 ·exact Tr.step (fun m=>by rw [zb5,z6,cond_false];simp) Tr.val
 ·intro k x zs hk hx hd ih
  have e1:((l.take k).map Hit.name).length=k:=by simp;omega
  have e2:((l.take k).map Hit.depth).length=k:=by simp;omega
  rw [ze3 hx,List.map_append,List.map_append] at ih
  refine Tr.step (fun m=>by rw [zb5,ltN hk,cond_true,zE hx,Option.bind_some,zbp]) ?_
  refine Tr.chk (decide_eq_true (by rw [e1];simp only [List.length_cons,List.length_nil];omega)) ?_
  refine Tr.chk (decide_eq_true (by rw [e2];simp only [List.length_cons,List.length_nil];omega)) ?_
  exact ih
theorem implTemplateValid_tr (f:Form) (l:List Hit) (hf:f.fit) (hb:f.w≤2 ^ 36) (hl:Hit.fits l) (hlb:Hit.ws l≤2 ^ 36):Tr (fun m=>zc8 m f l) (hvOk l&&zge f (nd l)):=by
 have hlen:=Hit.ws_len l
 refine Tr.eq (fun m=>by unfold zc8;rfl) (Tr.bind (hitVars_tr l (by omega)) (Tr.bind (implHitsValid_tr l hl) ?_))
 cases hvOk l with
 | false=>exact Tr.ff rfl Tr.val
 | true =>
   have:=templateOk_tr f (nd l) hf hb
   rw [nd_fst,nd_snd] at this
   exact Tr.tt rfl (Tr.bind this Tr.val)
theorem specTemplateValid_tr (f:Form) (l:List Hit) (hf:f.fit) (hb:f.w≤2 ^ 36) (hl:Hit.fits l) (hlb:Hit.ws l≤2 ^ 36):Tr (fun m=>zc6 m f l) (hvOk l&&zge f (nd l)):=by
 have hlen:=Hit.ws_len l
 refine Tr.eq (fun m=>by unfold zc6;rfl) (Tr.bind (zbR f hf hb) ?_)
 unfold zge
 cases f.valid with
 | false=>rw [Bool.false_and,Bool.and_false];exact Tr.ff rfl Tr.val
 | true =>
 refine Tr.tt rfl (Tr.bind (specHitsValid_tr l hl hlb) ?_)
 cases hv:hvOk l with
 | false=>exact Tr.ff rfl Tr.val
 | true =>
 rw [Bool.true_and,Bool.true_and,← Form.isT_two]
 refine Tr.tt rfl (Tr.bind ?_ Tr.val)
 exact l5Is_n l (by omega) _ f 0 l (Nat.le_refl _) hb (RowK.zero (fun h hh=>by have:=hvOk_depth hv h hh;omega))
end Go.Abs
end
section
set_option linter.unusedVariables false
set_option linter.unusedSimpArgs false
namespace Go.Abs
noncomputable def inF (l:List Form) (f:Form):Bool:=!alls (fun x=>!same x f) l
theorem l4In_tr (l:List Form) (f:Form):Tr (fun m=>zeU m l f) (inF l f):=by
 refine Tr.eq (fun m=>by unfold zeU;rfl) ?_
 have key:=zak l (fun k zs=>Tr (fun m=>zdf m l f (k:Int)) (inF zs f)) ?_ ?_ 0 (Nat.zero_le _)
 ·simpa using key
 ·exact Tr.step (fun m=>by rw [zdf,z6,cond_false];rfl) Tr.val
 ·intro k x zs hk hx hd ih
  refine Tr.step (fun m=>by rw [zdf,ltN hk,cond_true,zE hx,Option.bind_some,zbp]) (Tr.bind (zcL _ _) ?_)
  unfold inF;rw [alls]
  cases same x f with
  | true=>exact Tr.tt rfl Tr.val
  | false=>exact Tr.ff rfl (by simpa [inF] using ih)
noncomputable def litF:List Form→List Form→Bool
 | _,[]=>true
 | ps,x::xs=>isNm x&&(!decide (x.name=dotsN)&&(!decide (x.name=zgJ)&&(!inF ps x&&litF (ps++[x]) xs)))
noncomputable def litOk (l:List Form):Bool:=litF [] l&&decide ((l.length:Int)≤9)
theorem specLit_tr (l:List Form) (hf:Form.fits l) (hb:Form.ws l≤2 ^ 36):Tr (fun m=>zdm m l) (litOk l):=by
 refine Tr.eq (fun m=>by unfold zdm;rfl) ?_
 have hlen:=Form.ws_len l
 have e9:decide ((l.length:Int) < 10)=decide ((l.length:Int)≤9):=by
  rw [Bool.eq_iff_iff,decide_eq_true_iff,decide_eq_true_iff];omega
 have key:=zak l (fun k zs=>Tr (fun m=>zbb m l (k:Int)) (litF (l.take k) zs&&decide ((l.length:Int)≤9))) ?_ ?_ 0 (Nat.zero_le _)
 ·simpa [litOk] using key
 ·exact Tr.step (fun m=>by rw [zbb,z6,cond_false,litF,Bool.true_and,e9]) Tr.val
 ·intro k x zs hk hx hd ih
  have hm:=List.mem_of_getElem? hx
  have hmw:=Form.ws_mem hm
  rw [ze3 hx] at ih
  refine Tr.step (fun m=>by rw [zbb,ltN hk,cond_true,e9]) ?_
  by_cases h10:k < 10
  case neg =>
   refine Tr.ff (decide_eq_false (by omega)) (Tr.of fun m=>?_)
   rw [decide_eq_false (show ¬ (l.length:Int)≤9 by omega),Bool.and_false]
  refine Tr.tt (decide_eq_true (by omega)) (Tr.eq (fun m=>by rw [zE hx,Option.bind_some]) (Tr.bind (l3Is_tr x (Form.fits_mem hf hm) (by omega)) ?_))
  rw [litF]
  cases isNm x with
  | false=>exact Tr.tt rfl Tr.val
  | true =>
  refine Tr.ff rfl (Tr.eq (fun m=>by rw [Option.bind_some]) ?_)
  cases decide (x.name=dotsN) with
  | true=>exact Tr.tt rfl Tr.val
  | false =>
  refine Tr.ff rfl (Tr.eq (fun m=>by rw [Option.bind_some]) ?_)
  cases decide (x.name=zgJ) with
  | true=>exact Tr.tt rfl Tr.val
  | false =>
  refine Tr.ff rfl (Tr.eq (fun m=>by rw [sub_take (by omega),Option.bind_some,Option.bind_some,zaG (by omega),zbp]) (Tr.bind (l4In_tr _ _) ?_))
  cases inF (l.take k) x with
  | true=>exact Tr.tt rfl Tr.val
  | false=>exact Tr.ff rfl (by simpa using ih)
def cntD:List Form→Nat
 | []=>0
 | x::xs=>(bif zK x then 1 else 0)+cntD xs
mutual
def Form.shp:Form→Bool
 | .mk k nm n sc kids=>!zK (.mk k nm n sc kids)&&(Form.kP true kids&&decide (cntD kids≤1))
def Form.kP:Bool→List Form→Bool
 | _,[]=>true
 | pd,x::xs=>(bif zK x then !pd else x.shp)&&Form.kP (zK x) xs
end
theorem Form.shp_eq (f:Form):f.shp=(!zK f&&(Form.kP true f.kids&&decide (cntD f.kids≤1))):=by obtain ⟨a,b,c,d,e⟩:=f;rw [Form.shp];rfl
theorem l4Shape_n:∀ (n:Nat) (f:Form),f.w≤n→f.w≤2 ^ 36→Tr (fun m=>zdN m f) f.shp:=by
 intro n
 induction n with
 | zero=>intro a h;have:=a.w_pos;omega
 | succ n ih =>
   intro f h hb
   have hw:=f.w_kids
   have hlen:=Form.ws_len f.kids
   rw [Form.shp_eq]
   refine Tr.step (fun m=>by rw [zdN]) (Tr.bind (zeC f) ?_)
   cases zK f with
   | true=>exact Tr.tt rfl Tr.val
   | false =>
   refine Tr.ff rfl ?_
   rw [Bool.not_false,Bool.true_and]
   have key:=zak f.kids (fun k zs=>∀ g:Nat,g≤k→Tr (fun m=>zbH m f (g:Int) (k:Int)) (Form.kP (pdAt f.kids k) zs&&decide (g+cntD zs≤1))) ?_ ?_ 0 (Nat.zero_le _) 0 (Nat.le_refl _)
   ·simpa [pdAt] using key
   ·intro g _
    refine Tr.step (fun m=>by rw [zbH,z6,cond_false]) (Tr.of fun m=>?_)
    rw [Form.kP,cntD,Bool.true_and];congr 1
    rw [Bool.eq_iff_iff,decide_eq_true_iff,decide_eq_true_iff];omega
   ·intro k x zs hk hx hd ihk g hg
    have hm:=Form.ws_mem (List.mem_of_getElem? hx)
    rw [pd_succ hx] at ihk
    refine Tr.step (fun m=>by rw [zbH,ltN hk,cond_true,zE hx,Option.bind_some,zbp]) (Tr.bind (zeC x) ?_)
    rw [Form.kP,cntD]
    cases hxd:zK x with
    | true =>
      rw [hxd] at ihk
      refine Tr.tt rfl ?_
      rw [cond_true]
      cases k with
      | zero=>exact Tr.tt rfl Tr.val
      | succ j =>
        have hj:f.kids[j]?=some f.kids[j]:=List.getElem?_eq_getElem (by omega)
        refine Tr.ff (decide_eq_false (by omega)) (Tr.eq (fun m=>by rw [zaG (by omega),show ((j+1:Nat):Int)-1=(j:Int) by omega,zE hj,Option.bind_some]) (Tr.bind (zeC _) ?_))
        rw [pd_succ hj]
        cases zK f.kids[j] with
        | true=>exact Tr.tt rfl Tr.val
        | false =>
          have:=ihk (g+1) (by omega)
          rw [Nat.add_assoc g 1] at this
          exact Tr.ff rfl (Tr.eq (fun m=>by rw [zaG (by omega),zbp]) this)
    | false =>
      rw [hxd] at ihk
      refine Tr.ff rfl (Tr.eq (fun m=>by rw [Option.bind_some]) (Tr.bind (ih x (by omega) (by omega)) ?_))
      rw [cond_false,cond_false,Nat.zero_add]
      cases x.shp with
      | false=>exact Tr.tt rfl Tr.val
      | true=>exact Tr.ff rfl (by simpa using ihk g (by omega))
end Go.Abs
end
section
set_option linter.unusedVariables false
set_option linter.unusedSimpArgs false
namespace Go.Abs
noncomputable def zfs (lits:List Form) (f:Form):Bool:=decide (f.kind=1)&&(!decide (f.name=dotsN)&&(!decide (f.name=zgJ)&&!inF lits f))
theorem dec_ne {α:Type} (a b:α) [DecidableEq α]:decide (a≠b)=!decide (a=b):=by
 by_cases h:a=b
 ·rw [decide_eq_true h,decide_eq_false (fun hh=>hh h)];rfl
 ·rw [decide_eq_false h,decide_eq_true h];rfl
theorem l4Var_tr (f:Form) (lits:List Form):Tr (fun m=>zfR m f lits) (zfs lits f):=by
 refine Tr.eq (fun m=>by unfold zfR;rw [dec_ne,dec_ne]) ?_
 unfold zfs
 cases decide (f.kind=1) with
 | false=>exact Tr.ff rfl Tr.val
 | true =>
 refine Tr.tt rfl ?_
 cases decide (f.name=dotsN) with
 | true=>exact Tr.ff rfl Tr.val
 | false =>
 refine Tr.tt rfl ?_
 cases decide (f.name=zgJ) with
 | true=>exact Tr.ff rfl Tr.val
 | false=>exact Tr.tt rfl (Tr.bind (l4In_tr _ _) Tr.val)
mutual
noncomputable def Form.vd (lits:List Form):Nat→Form→List (Form × Int)
 | v,.mk k nm n sc kids=>(bif zfs lits (.mk k nm n sc kids) then [((Form.mk k nm n sc kids),(v:Int))] else [])++Form.kV lits v kids
noncomputable def Form.kV (lits:List Form):Nat→List Form→List (Form × Int)
 | _,[]=>[]
 | v,x::xs=>(bif zbM xs then x.vd lits (v+1) else x.vd lits v)++Form.kV lits v xs
end
mutual
noncomputable def Form.vs (lits:List Form):Form→List Form
 | .mk k nm n sc kids=>(bif zfs lits (.mk k nm n sc kids) then [(Form.mk k nm n sc kids)] else [])++Form.kVs lits kids
noncomputable def Form.kVs (lits:List Form):List Form→List Form
 | []=>[]
 | x::xs=>x.vs lits++Form.kVs lits xs
end
theorem Form.vd_eq (lits:List Form) (v:Nat) (f:Form):f.vd lits v=(bif zfs lits f then [(f,(v:Int))] else [])++Form.kV lits v f.kids:=by obtain ⟨a,b,c,d,e⟩:=f;rw [Form.vd];rfl
theorem Form.vs_eq (lits:List Form) (f:Form):f.vs lits=(bif zfs lits f then [f] else [])++Form.kVs lits f.kids:=by obtain ⟨a,b,c,d,e⟩:=f;rw [Form.vs];rfl
mutual
theorem Form.vd_fst (lits:List Form):∀ (f:Form) (v:Nat),(f.vd lits v).map (·.1)=f.vs lits
 | .mk k nm n sc kids,v=>by
   have:=Form.kV_fst lits kids v
   rw [Form.vd,Form.vs,List.map_append,this]
   cases zfs lits (.mk k nm n sc kids)<;>rfl
theorem Form.kV_fst (lits:List Form):∀ (l:List Form) (v:Nat),(Form.kV lits v l).map (·.1)=Form.kVs lits l
 | [],v=>by rw [Form.kV,Form.kVs];rfl
 | x::xs,v=>by
   have h1:=Form.vd_fst lits x v
   have h2:=Form.vd_fst lits x (v+1)
   have h3:=Form.kV_fst lits xs v
   rw [Form.kV,Form.kVs,List.map_append,h3]
   cases zbM xs
   ·rw [cond_false,h1]
   ·rw [cond_true,h2]
end
mutual
theorem Form.vd_len (lits:List Form):∀ (f:Form) (v:Nat),(f.vd lits v).length≤f.w
 | .mk k nm n sc kids,v=>by
   have:=Form.kV_len lits kids v
   rw [Form.vd,Form.w,List.length_append]
   cases zfs lits (.mk k nm n sc kids)<;>simp<;>omega
theorem Form.kV_len (lits:List Form):∀ (l:List Form) (v:Nat),(Form.kV lits v l).length≤Form.ws l
 | [],v=>by rw [Form.kV];simp
 | x::xs,v=>by
   have h1:=Form.vd_len lits x v
   have h2:=Form.vd_len lits x (v+1)
   have h3:=Form.kV_len lits xs v
   rw [Form.kV,Form.ws,List.length_append]
   cases zbM xs
   ·rw [cond_false];omega
   ·rw [cond_true];omega
end
theorem l4Vars_n (lits:List Form):∀ (n:Nat) (f:Form) (a:List Form),f.w≤n→a.length+f.w≤2 ^ 37→Tr (fun m=>zcH m a f lits) (a++f.vs lits)∧(f.vs lits).length≤f.w:=by
 intro n
 induction n with
 | zero=>intro a _ h;have:=a.w_pos;omega
 | succ n ih =>
   intro f a h ha
   have hw:=f.w_kids
   have hlenv:(f.vs lits).length≤f.w:=by have:=Form.vd_len lits f 0;rw [← Form.vd_fst lits f 0,List.length_map];exact this
   refine ⟨?_,hlenv⟩
   have loop:∀ k,k≤f.kids.length→∀ (a:List Form),a.length+Form.ws (f.kids.drop k)≤2 ^ 37→Tr (fun m=>zaN m f lits a (k:Int)) (a++Form.kVs lits (f.kids.drop k)):=by
    refine zak f.kids (fun k zs=>∀ (a:List Form),a.length+Form.ws zs≤2 ^ 37→Tr (fun m=>zaN m f lits a (k:Int)) (a++Form.kVs lits zs)) ?_ ?_
    ·intro a _
     exact Tr.step (fun m=>by rw [zaN,z6,cond_false,Form.kVs];simp) Tr.val
    ·intro k x zs hk hx hd ihk a ha
     have hm:=Form.ws_mem (List.mem_of_getElem? hx)
     rw [Form.ws] at ha
     obtain ⟨i1,i2⟩:=ih x a (by omega) (by omega)
     refine Tr.step (fun m=>by rw [zaN,ltN hk,cond_true,zE hx,Option.bind_some,zbp]) (Tr.bind i1 ?_)
     rw [Form.kVs,← List.append_assoc]
     exact ihk _ (by simp;omega)
   have l0:=fun a h1=>loop 0 (Nat.zero_le _) a (by rw [List.drop_zero];exact h1)
   simp only [List.drop_zero] at l0
   rw [Form.vs_eq]
   refine Tr.step (fun m=>by rw [zcH]) (Tr.bind (l4Var_tr _ _) ?_)
   cases zfs lits f with
   | false=>exact Tr.ff rfl (l0 a (by omega))
   | true =>
     refine Tr.tt rfl (Tr.chk (by simp;omega) ?_)
     have:=l0 (a++[f]) (by simp;omega)
     simpa using this
theorem l4Depths_n (lits:List Form):∀ (n:Nat) (f:Form) (v:Nat) (b:List Int),f.w≤n→f.w+v≤2 ^ 37→b.length+f.w≤2 ^ 37→Tr (fun m=>zaY m b f lits (v:Int)) (b++(f.vd lits v).map (·.2)):=by
 intro n
 induction n with
 | zero=>intro a v _ h;have:=a.w_pos;omega
 | succ n ih =>
   intro f v b h hb hbb
   have hw:=f.w_kids
   have hlen:=Form.ws_len f.kids
   have loop:∀ k,k≤f.kids.length→∀ (b:List Int),b.length+Form.ws (f.kids.drop k)≤2 ^ 37→Tr (fun m=>zag m f lits (v:Int) b (k:Int)) (b++(Form.kV lits v (f.kids.drop k)).map (·.2)):=by
    refine zak f.kids (fun k zs=>∀ (b:List Int),b.length+Form.ws zs≤2 ^ 37→Tr (fun m=>zag m f lits (v:Int) b (k:Int)) (b++(Form.kV lits v zs).map (·.2))) ?_ ?_
    ·intro b _
     exact Tr.step (fun m=>by rw [zag,z6,cond_false,Form.kV];simp) Tr.val
    ·intro k x zs hk hx hd ihk b B2
     have hm:=Form.ws_mem (List.mem_of_getElem? hx)
     rw [Form.ws] at B2
     have l0:=Form.vd_len lits x v
     have l1:=Form.vd_len lits x (v+1)
     refine Tr.step (fun m=>by rw [zag,ltN hk,cond_true,zE hx,zbp]) ?_
     have plain:Tr (fun m=>(zaY m b x lits (v:Int)).bind fun v18=>zag m f lits (v:Int) v18 ((k+1:Nat):Int)) (b++(x.vd lits v++Form.kV lits v zs).map (·.2)):=by
      refine Tr.bind (ih x v b (by omega) (by omega) (by omega)) ?_
      have:=ihk (b++(x.vd lits v).map (·.2)) (by simp;omega)
      simpa only [List.map_append,List.append_assoc] using this
     rcases next_get hd with ⟨rfl,hl⟩ | ⟨y,ys,rfl,hy,hl⟩
     ·rw [Form.kV,zbM,cond_false]
      exact Tr.ff (decide_eq_false (by omega)) (Tr.eq (fun m=>by rw [Option.bind_some]) plain)
     ·rw [Form.kV,zbM]
      refine Tr.tt (decide_eq_true (by omega)) (Tr.eq (fun m=>by rw [zE hy,Option.bind_some]) (Tr.bind (zeC _) ?_))
      cases zK y with
      | false=>exact Tr.ff rfl (Tr.eq (fun m=>by rw [Option.bind_some]) plain)
      | true =>
      refine Tr.tt rfl (Tr.eq (fun m=>by rw [Option.bind_some,zaG (by omega),zbp]) (Tr.bind (ih x (v+1) b (by omega) (by omega) (by omega)) ?_))
      rw [cond_true]
      have:=ihk (b++(x.vd lits (v+1)).map (·.2)) (by simp;omega)
      simpa only [List.map_append,List.append_assoc] using this
   have l0:=fun b h1=>loop 0 (Nat.zero_le _) b (by rw [List.drop_zero];exact h1)
   simp only [List.drop_zero] at l0
   rw [Form.vd_eq]
   refine Tr.step (fun m=>by rw [zaY]) (Tr.bind (l4Var_tr _ _) ?_)
   cases zfs lits f with
   | false=>exact Tr.ff rfl (l0 b (by omega))
   | true =>
     refine Tr.tt rfl (Tr.chk (by simp;omega) ?_)
     have:=l0 (b++[(v:Int)]) (by simp;omega)
     simpa using this
end Go.Abs
end
section
set_option linter.unusedVariables false
set_option linter.unusedSimpArgs false
namespace Go.Abs
noncomputable def distF:List Form→List Form→Bool
 | _,[]=>true
 | ps,x::xs=>!inF ps x&&distF (ps++[x]) xs
def dsOk (l:List Int):Bool:=alls (fun d=>!decide (3 < d)) l
noncomputable def patOk (f:Form) (lits:List Form):Bool:=f.valid&&(litOk lits&&(f.shp&&((distF [] (f.vs lits)&&dsOk ((f.vd lits 0).map (·.2)))&&decide (((f.vs lits).length:Int)≤20))))
theorem l4Is_tr (f:Form) (lits:List Form) (hf:f.fit) (hb:f.w≤2 ^ 36) (hl:Form.fits lits) (hlb:Form.ws lits≤2 ^ 36):Tr (fun m=>zgm m f lits) (patOk f lits):=by
 refine Tr.eq (fun m=>by unfold zgm;rfl) (Tr.bind (zbR f hf hb) ?_)
 unfold patOk
 cases f.valid with
 | false=>exact Tr.tt rfl Tr.val
 | true =>
 refine Tr.ff rfl (Tr.bind (specLit_tr lits hl hlb) ?_)
 cases litOk lits with
 | false=>exact Tr.tt rfl Tr.val
 | true =>
 refine Tr.ff rfl (Tr.bind (l4Shape_n _ f (Nat.le_refl _) hb) ?_)
 cases f.shp with
 | false=>exact Tr.tt rfl Tr.val
 | true =>
 refine Tr.ff rfl (Tr.bind (l4Vars_n lits _ f [] (Nat.le_refl _) (by simp;omega)).1 ?_)
 rw [List.nil_append]
 have key:=zak (f.vs lits) (fun k zs=>Tr (fun m=>zde m f lits (k:Int) (f.vs lits)) ((distF ((f.vs lits).take k) zs&&dsOk ((f.vd lits 0).map (·.2)))&&decide (((f.vs lits).length:Int)≤20))) ?_ ?_ 0 (Nat.zero_le _)
 ·simpa using key
 ·refine Tr.step (fun m=>by rw [zde,z6,cond_false]) ?_
  refine Tr.bind (l4Depths_n lits _ f 0 [] (Nat.le_refl _) (by omega) (by simp;omega)) ?_
  rw [List.nil_append,distF,Bool.true_and]
  have inner:=zak ((f.vd lits 0).map (·.2)) (fun j ws=>Tr (fun m=>zdd m (f.vs lits) ((f.vd lits 0).map (·.2)) (j:Int)) (dsOk ws&&decide (((f.vs lits).length:Int)≤20))) ?_ ?_ 0 (Nat.zero_le _)
  ·simpa using inner
  ·exact Tr.step (fun m=>by rw [zdd,z6,cond_false];simp [dsOk,alls]) Tr.val
  ·intro j y ws hj hy hdj ihj
   refine Tr.step (fun m=>by rw [zdd,ltN hj,cond_true,zE hy,Option.bind_some,zbp]) ?_
   rw [dsOk,alls]
   cases decide (3 < y) with
   | true=>exact Tr.tt rfl Tr.val
   | false=>exact Tr.ff rfl (by simpa [dsOk] using ihj)
 ·intro k x zs hk hx hd ih
  rw [ze3 hx] at ih
  refine Tr.step (fun m=>by rw [zde,ltN hk,cond_true,sub_take (by omega),Option.bind_some,zE hx,Option.bind_some,zbp]) (Tr.bind (l4In_tr _ _) ?_)
  rw [distF]
  cases inF ((f.vs lits).take k) x with
  | true=>exact Tr.tt rfl Tr.val
  | false=>exact Tr.ff rfl (by simpa using ih)
def zfU (p:Form × Int):Hit:=bif decide (p.2=0) then Hit.mk p.1 p.2 p.1 ([]:List Hit) else Hit.mk p.1 p.2 zbQ ([]:List Hit)
theorem nd_shape:∀ l:List (Form × Int),nd (l.map zfU)=l
 | []=>rfl
 | p::ps=>by
   have:=nd_shape ps
   simp only [nd,List.map_cons,List.map_map] at this ⊢
   rw [this]
   congr 1
   unfold zfU
   cases decide (p.2=0)<;>rfl
theorem l5Shape_tr (f:Form) (lits:List Form) (hb:f.w≤2 ^ 36):Tr (fun m=>zfk m f lits) ((f.vd lits 0).map zfU):=by
 refine Tr.eq (fun m=>by unfold zfk;rfl) (Tr.bind (l4Vars_n lits _ f [] (Nat.le_refl _) (by simp;omega)).1 (Tr.bind (l4Depths_n lits _ f 0 [] (Nat.le_refl _) (by omega) (by simp;omega)) ?_))
 rw [List.nil_append,List.nil_append,← Form.vd_fst lits f 0]
 have hlen:=Form.vd_len lits f 0
 generalize f.vd lits 0=l at hlen
 have key:=zak l (fun k zs=>Tr (fun m=>zbF m (l.map (·.1)) (l.map (·.2)) ((l.take k).map zfU) (k:Int)) (l.map zfU)) ?_ ?_ 0 (Nat.zero_le _)
 ·simpa using key
 ·exact Tr.step (fun m=>by rw [zbF,List.length_map,z6,cond_false];simp) Tr.val
 ·intro k x zs hk hx hd ih
  have h1:(l.map (·.1))[k]?=some x.1:=by rw [List.getElem?_map,hx];rfl
  have h2:(l.map (·.2))[k]?=some x.2:=by rw [List.getElem?_map,hx];rfl
  have hk1:k < (l.map (·.1)).length:=by simpa using hk
  have hlk:((l.take k).map zfU).length=k:=by simp;omega
  rw [ze3 hx,List.map_append] at ih
  refine Tr.step (fun m=>by rw [zbF,ltN hk1,cond_true,zE h1,Option.bind_some,zE h2,Option.bind_some,zbp]) ?_
  cases h0:decide (x.2=0) with
  | true =>
    rw [show List.map zfU [x]=[Hit.mk x.1 x.2 x.1 []] by simp [zfU,h0]] at ih
    exact Tr.tt rfl (Tr.eq (fun m=>by rw [Option.bind_some]) (Tr.chk (decide_eq_true (by rw [hlk];simp only [List.length_cons,List.length_nil];omega)) ih))
  | false =>
    rw [show List.map zfU [x]=[Hit.mk x.1 x.2 zbQ []] by simp [zfU,h0]] at ih
    exact Tr.ff rfl (Tr.chk (decide_eq_true (by rw [hlk];simp only [List.length_cons,List.length_nil];omega)) ih)
noncomputable def ruleOk (r:Rule) (lits:List Form):Bool:=patOk r.pattern lits&&(decide (r.pattern.kind=3)&&(decide (0 < (r.pattern.kids.length:Int))&&zge r.template (r.pattern.vd lits 0)))
mutual
theorem Form.vd_nn (lits:List Form):∀ (f:Form) (v:Nat),∀ x∈f.vd lits v,0≤x.2
 | .mk k nm n sc kids,v,x,hx=>by
   have:=Form.kV_nn lits kids v x
   rw [Form.vd,List.mem_append] at hx
   rcases hx with hx | hx
   ·cases h:zfs lits (.mk k nm n sc kids) with
    | true=>rw [h,cond_true,List.mem_singleton] at hx;subst hx;exact Int.natCast_nonneg v
    | false=>rw [h,cond_false] at hx;cases hx
   ·exact this hx
theorem Form.kV_nn (lits:List Form):∀ (l:List Form) (v:Nat),∀ x∈Form.kV lits v l,0≤x.2
 | [],v,x,hx=>by rw [Form.kV] at hx;cases hx
 | y::ys,v,x,hx=>by
   have h1:=Form.vd_nn lits y v x
   have h2:=Form.vd_nn lits y (v+1) x
   have h3:=Form.kV_nn lits ys v x
   rw [Form.kV,List.mem_append] at hx
   rcases hx with hx | hx
   ·cases h:zbM ys with
    | true=>rw [h,cond_true] at hx;exact h2 hx
    | false=>rw [h,cond_false] at hx;exact h1 hx
   ·exact h3 hx
end
theorem vd_fit (f:Form) (lits:List Form) (h:dsOk ((f.vd lits 0).map (·.2))=true):∀ x∈(f.vd lits 0).map zfU,-9223372036854775808≤x.depth∧x.depth≤9223372036854775807:=fun x hx=>by
 obtain ⟨p,hp,rfl⟩:=List.mem_map.1 hx
 have h1:=Form.vd_nn lits f 0 p hp
 have h2:=(zdT.1 h) p.2 (List.mem_map_of_mem hp)
 have h3:¬ 3 < p.2:=by simpa using h2
 have e:(zfU p).depth=p.2:=by unfold zfU;cases decide (p.2=0)<;>rfl
 rw [e];omega
theorem specRuleValid_tr (r:Rule) (lits:List Form) (h1:r.pattern.fit) (b1:r.pattern.w≤2 ^ 36) (h2:r.template.fit) (b2:r.template.w≤2 ^ 36) (hl:Form.fits lits) (hlb:Form.ws lits≤2 ^ 36):Tr (fun m=>zgE m r lits) (ruleOk r lits):=by
 refine Tr.eq (fun m=>by unfold zgE zc9;rfl) (Tr.bind (v:=ruleOk r lits) ?_ Tr.val)
 refine Tr.bind (l4Is_tr _ _ h1 b1 hl hlb) ?_
 unfold ruleOk
 cases hp:patOk r.pattern lits with
 | false=>exact Tr.ff rfl Tr.val
 | true =>
 refine Tr.tt rfl ?_
 cases decide (r.pattern.kind=3) with
 | false=>exact Tr.ff rfl Tr.val
 | true =>
 refine Tr.tt rfl ?_
 cases decide (0 < (r.pattern.kids.length:Int)) with
 | false=>exact Tr.ff rfl Tr.val
 | true =>
 refine Tr.tt rfl (Tr.bind (zbR _ h2 b2) ?_)
 unfold zge
 cases r.template.valid with
 | false=>exact Tr.ff rfl Tr.val
 | true =>
 refine Tr.tt rfl (Tr.bind (l5Shape_tr _ _ b1) ?_)
 have hds:dsOk ((r.pattern.vd lits 0).map (·.2))=true:=by
  unfold patOk at hp
  simp only [Bool.and_eq_true] at hp
  exact hp.2.2.2.1.2
 have hlen:=Form.vd_len lits r.pattern 0
 have:=l5Is_n ((r.pattern.vd lits 0).map zfU) (by rw [List.length_map];omega) _ r.template 0 _ (Nat.le_refl _) b2 (RowK.zero (vd_fit _ _ hds))
 rw [nd_shape,Form.isT_two] at this
 refine Tr.bind this ?_
 exact Tr.val
end Go.Abs
end
end
section
set_option linter.unusedVariables false
set_option linter.unusedSimpArgs false
namespace Go.Abs
theorem byte_mem {r:zba} {K:Int} (h:OkRd r K) {x:Int} (hx:x∈r.b):0≤x∧x < 256:=h.byte x hx
theorem tmod_lt {a b:Int} (ha:0≤a) (hb:0 < b):0≤a.tmod b∧a.tmod b < b:=by
 rw [Int.tmod_eq_emod_of_nonneg ha]
 exact ⟨Int.emod_nonneg _ (by omega),Int.emod_lt_of_pos _ hb⟩
theorem zeT (o:zba) (n:Int) (K:Int) (h:OkRd o K) (hK:K≤1000000000000):TQ (fun m=>zL m o n) (fun r=>OkRd r.2 (K+1)∧r.2.b=o.b∧(0 < n→0≤r.1∧r.1 < n)∧(n≤0→r.1=0)):=by
 have h0:=h.lo
 have h1:=h.hi
 have e1:w64 (o.p+1)=o.p+1:=zaG (by omega)
 have e2:w64 (o.p+1-1)=o.p:=by rw [zaG (by omega)];omega
 have hok:OkRd (zba.mk o.b (o.p+1)) (K+1):=⟨h.len,h.byte,by simp only;omega,by simp only;omega⟩
 refine TQ.eq (fun m=>by unfold zL;rw [e1,e2]) ?_
 refine TQ.cond (fun hc=>TQ.val ⟨hok,rfl,fun hn=>?_,fun _=>rfl⟩) (fun hc=>?_)
 ·simp at hc;omega
 have hn:0 < n:=by simp at hc;omega
 refine TQ.cond (fun C2=>TQ.val ⟨hok,rfl,fun _=>⟨Int.le_refl _,hn⟩,fun _=>rfl⟩) (fun C2=>?_)
 have hlen:0 < o.b.length:=by simp at C2;exact List.length_pos_iff.2 C2
 have hlen2:=h.len
 refine TQ.cond (fun C3=>?_) (fun C3=>?_)
 ·refine TQ.idx h0 (by simpa using C3) (fun x hx=>?_)
  obtain ⟨b0,b1⟩:=byte_mem h hx
  refine TQ.chk (by simp;omega) (TQ.val ⟨hok,rfl,fun _=>?_,fun hh=>absurd hn (by omega)⟩)
  rw [zaG (by omega)]
  exact tmod_lt b0 hn
 ·refine TQ.chk (by simp;exact List.length_pos_iff.1 hlen) ?_
  obtain ⟨i0,i1⟩:=tmod_lt h0 (show (0:Int) < o.b.length by omega)
  refine TQ.idx i0 i1 (fun x hx=>?_)
  obtain ⟨b0,b1⟩:=byte_mem h hx
  refine TQ.chk (by simp;exact List.length_pos_iff.1 hlen) ?_
  have e3:w64 (w64 (o.p*7)+3)=o.p*7+3:=by rw [zaG (n:=o.p*7) (by omega),zaG (by omega)]
  rw [e3]
  obtain ⟨j0,j1⟩:=tmod_lt (show (0:Int)≤o.p*7+3 by omega) (show (0:Int) < o.b.length by omega)
  refine TQ.idx j0 j1 (fun y hy=>?_)
  obtain ⟨c0,c1⟩:=byte_mem h hy
  refine TQ.chk (by simp;exact List.length_pos_iff.1 hlen) ?_
  refine TQ.chk (by simp;omega) (TQ.val ⟨hok,rfl,fun _=>?_,fun hh=>absurd hn (by omega)⟩)
  have q1:0≤o.p.tdiv o.b.length∧o.p.tdiv o.b.length≤o.p:=by
   rw [Int.tdiv_eq_ediv_of_nonneg h0]
   exact ⟨Int.ediv_nonneg h0 (by omega),Int.ediv_le_self _ h0⟩
  have e4:w64 (w64 (w64 (w64 (w64 x*131)+w64 (w64 y*1117))+w64 (o.p*29))+w64 (w64 (o.p.tdiv o.b.length)*53))=x*131+y*1117+o.p*29+o.p.tdiv o.b.length*53:=by
   rw [zaG (n:=x) (by omega),zaG (n:=y) (by omega),zaG (n:=x*131) (by omega),zaG (n:=y*1117) (by omega),zaG (n:=x*131+y*1117) (by omega),zaG (n:=o.p*29) (by omega),zaG (n:=o.p.tdiv o.b.length) (by omega),zaG (n:=o.p.tdiv o.b.length*53) (by omega),zaG (n:=x*131+y*1117+o.p*29) (by omega),zaG (by omega)]
  rw [e4]
  have hx0:0≤x*131+y*1117+o.p*29+o.p.tdiv o.b.length*53:=by omega
  have hx1:x*131+y*1117+o.p*29+o.p.tdiv o.b.length*53 < 2 ^ 60:=by omega
  generalize x*131+y*1117+o.p*29+o.p.tdiv o.b.length*53=z at hx0 hx1
  have hz:0≤z.tdiv 64∧z.tdiv 64≤z:=by
   rw [Int.tdiv_eq_ediv_of_nonneg hx0]
   exact ⟨by omega,by omega⟩
  rw [zaG (n:=z.tdiv 64) (by omega)]
  exact tmod_lt (xor_nonneg hx0 (by omega) hz.1 (by omega)) hn
theorem num_tq (o:zba) (l:List Int) (K:Int) (h:OkRd o K) (hK:K≤1000000000000) (hl:0 < l.length):TQ (fun m=>zaq m o l) (fun r=>OkRd r.2 (K+1)∧r.1∈l):=by
 refine TQ.eq (fun m=>by unfold zaq;rfl) ?_
 refine TQ.bind (zeT o _ K h hK) (fun v hv=>?_)
 obtain ⟨h1,_,h2,_⟩:=hv
 obtain ⟨h2,h3⟩:=h2 (by omega)
 exact TQ.idx h2 h3 (fun x hx=>TQ.val ⟨h1,hx⟩)
theorem of_tq (o:zba) (l:List ByteArray) (K:Int) (h:OkRd o K) (hK:K≤1000000000000) (hl:0 < l.length):TQ (fun m=>zbs m o l) (fun r=>OkRd r.2 (K+1)∧r.1∈l):=by
 refine TQ.eq (fun m=>by unfold zbs;rfl) ?_
 refine TQ.bind (zeT o _ K h hK) (fun v hv=>?_)
 obtain ⟨h1,_,h2,_⟩:=hv
 obtain ⟨h2,h3⟩:=h2 (by omega)
 exact TQ.idx h2 h3 (fun x hx=>TQ.val ⟨h1,hx⟩)
theorem open_tq (code:List Int) (h:∀ x∈code,0≤x∧x < 256):TQ (fun m=>zeF m code) (fun r=>OkRd r 0):=by
 refine TQ.eq (fun m=>by unfold zeF;rfl) ?_
 refine TQ.cond (fun hc=>?_) (fun hc=>?_)
 ·have hlt:2000 < code.length:=by simp at hc;omega
  have e:sub code 0 2000=some (code.take 2000):=by
   unfold sub
   have:(2000:Int)≤code.length:=by omega
   simp [this]
  refine ⟨_,Tr.eq (fun m=>by rw [e];rfl) Tr.val,⟨?_,?_,?_,?_⟩⟩
  ·simp [List.length_take];omega
  ·intro x hx;exact h x (List.mem_of_mem_take hx)
  ·simp
  ·simp
 ·refine TQ.val ⟨?_,h,?_,?_⟩
  ·simp at hc;simp;omega
  ·simp
  ·simp
end Go.Abs
end
