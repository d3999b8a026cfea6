/- A part of the proof: what the functions that the law calls answer, as pure values. -/
import Derived.Test.YtcebadpiebamdaaGreatK403ef3ea41a7
set_option linter.unusedSimpArgs false
set_option linter.unusedVariables false
section
set_option linter.unusedVariables false
namespace Go.Abs
def Tr {α:Type} (F:Nat->Option α) (v:α):Prop:=∃ n,∀ m,n<=m->F m=some v
theorem Tr.val {α:Type} {v:α}:Tr (fun _=>some v) v:=⟨0,fun _ _=>rfl⟩
theorem Tr.of {α:Type} {F:Nat->Option α} {v:α} (h:∀ m,F m=some v):Tr F v:=⟨0,fun m _=>h m⟩
theorem Tr.bind {α β:Type} {f:Nat->Option α} {g:α->Nat->Option β} {v:α} {w:β} (h1:Tr f v) (h2:Tr (fun m=>g v m) w):Tr (fun m=>(f m).bind fun x=>g x m) w:=by
 obtain ⟨n1,h1⟩:=h1;obtain ⟨n2,h2⟩:=h2;refine ⟨n1+n2,fun m hm=>?_⟩
 show (f m).bind _=_
 rw [h1 m (by omega)];exact h2 m (by omega)
theorem Tr.step {α:Type} {F G:Nat->Option α} {v:α} (h:∀ m,F (m+1)=G m) (hg:Tr G v):Tr F v:=by
 obtain ⟨n,hg⟩:=hg;refine ⟨n+1,fun m hm=>?_⟩;obtain ⟨k,rfl⟩:∃ k,m=k+1:=⟨m-1,by omega⟩
 rw [h,hg k (by omega)]
theorem Tr.eq {α:Type} {F G:Nat->Option α} {v:α} (h:∀ m,F m=G m) (hg:Tr G v):Tr F v:=by
 obtain ⟨n,hg⟩:=hg;exact ⟨n,fun m hm=>by rw [h,hg m hm]⟩
theorem Tr.tt {α:Type} {F G:Nat->Option α} {b:Bool} {v:α} (hb:b=true) (h:Tr F v):Tr (fun m=>bif b then F m else G m) v:=by subst hb;exact h
theorem Tr.ff {α:Type} {F G:Nat->Option α} {b:Bool} {v:α} (hb:b=false) (h:Tr G v):Tr (fun m=>bif b then F m else G m) v:=by subst hb;exact h
theorem Tr.chk {α:Type} {F:Nat->Option α} {b:Bool} {v:α} (hb:b=true) (h:Tr F v):Tr (fun m=>Abs.chk b (F m)) v:=by subst hb;exact h
theorem Tr.get {α:Type} {F:Nat->Option α} {v:α} (h:Tr F v):∃ n,F n=some v:=by
 obtain ⟨n,h⟩:=h;exact ⟨n,h n (Nat.le_refl n)⟩
theorem aK {α:Type} {l:List α} {k:Nat} {x:α} (h:l[k]?=some x):idx l (k:Int)=some x:=by
 unfold idx;simp [h]
theorem aX {α:Type} (l:List α) (motive:Nat->List α->Prop) (nil:motive l.length [])
  (cons:∀ k x xs,k < l.length->l[k]?=some x->l.drop k=x::xs->motive (k+1) xs->motive k (x::xs)):∀ k,k<=l.length->motive k (l.drop k):=by
 have key:∀ n k,l.length-k=n->k<=l.length->motive k (l.drop k):=by
  intro n;induction n with
  | zero =>
    intro k hk hle;have:k=l.length:=by omega
    subst this;rw [List.drop_length];exact nil
  | succ n ih =>
    intro k hk hle;have hlt:k < l.length:=by omega
    have:=ih (k+1) (by omega) (by omega);rw [List.drop_eq_getElem_cons hlt];exact cons k _ _ hlt (List.getElem?_eq_getElem hlt) (List.drop_eq_getElem_cons hlt) this
 exact fun k hk=>key _ k rfl hk
theorem ltN {k n:Nat} (h:k < n):decide ((k:Int) < (n:Int))=true:=by simpa using h
theorem geN {k n:Nat} (h:¬ k < n):decide ((k:Int) < (n:Int))=false:=by simpa using h
theorem aP {n:Nat}:decide ((n:Int) < (n:Int))=false:=by simp
theorem cQ (k:Nat):(k:Int)+1=((k+1:Nat):Int):=by simp
theorem bT {n:Int} (h:-9223372036854775808<=n/\n<=9223372036854775807):w64 n=n:=IntWalk.i64_in n (by omega)
def TQ {α:Type} (F:Nat->Option α) (Q:α->Prop):Prop:=∃ r,Tr F r/\Q r
theorem TQ.val {α:Type} {v:α} {Q:α->Prop} (h:Q v):TQ (fun _=>some v) Q:=⟨v,Tr.val,h⟩
theorem TQ.bind {α β:Type} {f:Nat->Option α} {g:α->Nat->Option β} {Q:α->Prop} {R:β->Prop} (h1:TQ f Q) (h2:∀ v,Q v->TQ (fun m=>g v m) R):TQ (fun m=>(f m).bind fun x=>g x m) R:=by
 obtain ⟨v,h1,hq⟩:=h1;obtain ⟨w,h2,hr⟩:=h2 v hq;exact ⟨w,h1.bind h2,hr⟩
theorem TQ.ev {α β:Type} {f:Nat->Option α} {g:α->Nat->Option β} {v:α} {R:β->Prop} (h1:Tr f v) (h2:TQ (fun m=>g v m) R):TQ (fun m=>(f m).bind fun x=>g x m) R:=by
 obtain ⟨w,h2,hr⟩:=h2;exact ⟨w,h1.bind h2,hr⟩
theorem TQ.step {α:Type} {F G:Nat->Option α} {Q:α->Prop} (h:∀ m,F (m+1)=G m) (hg:TQ G Q):TQ F Q:=by
 obtain ⟨v,h1,hq⟩:=hg;exact ⟨v,Tr.step h h1,hq⟩
theorem TQ.eq {α:Type} {F G:Nat->Option α} {Q:α->Prop} (h:∀ m,F m=G m) (hg:TQ G Q):TQ F Q:=by
 obtain ⟨v,h1,hq⟩:=hg;exact ⟨v,Tr.eq h h1,hq⟩
theorem TQ.cond {α:Type} {F G:Nat->Option α} {b:Bool} {Q:α->Prop} (h1:b=true->TQ F Q) (h2:b=false->TQ G Q):TQ (fun m=>bif b then F m else G m) Q:=by
 cases b
 ·exact h2 rfl
 ·exact h1 rfl
theorem TQ.chk {α:Type} {F:Nat->Option α} {b:Bool} {Q:α->Prop} (hb:b=true) (h:TQ F Q):TQ (fun m=>Abs.chk b (F m)) Q:=by subst hb;exact h
theorem TQ.mono {α:Type} {F:Nat->Option α} {Q R:α->Prop} (h:TQ F Q) (hq:∀ v,Q v->R v):TQ F R:=by
 obtain ⟨v,h1,h2⟩:=h;exact ⟨v,h1,hq v h2⟩
mutual
def aB.w:aB->Nat
 | .mk _ _ _ scopes kids=>1+scopes.length+aB.ws kids
def aB.ws:List aB->Nat
 | []=>0
 | f::fs=>1+f.w+aB.ws fs
end
theorem aB.ws_len:∀ (l:List aB),l.length<=aB.ws l
 | []=>by simp
 | f::fs=>by have:=aB.ws_len fs;rw [aB.ws,List.length_cons];omega
theorem aB.ws_mem:∀ {l:List aB} {x:aB},x∈l->x.w < aB.ws l
 | f::fs,x,h=>by
   rw [aB.ws];rcases List.mem_cons.1 h with rfl | h
   ·omega
   ·have:=aB.ws_mem h;omega
theorem aB.ws_append (a b:List aB):aB.ws (a++b)=aB.ws a+aB.ws b:=by
 induction a with
 | nil=>simp [aB.ws]
 | cons x a ih=>rw [List.cons_append,aB.ws,aB.ws,ih];omega
theorem aB.w_kids (f:aB):aB.ws f.kids+f.scopes.length+1=f.w:=by obtain ⟨a,b,c,d,e⟩:=f;simp only [aB.w,aB.kids,aB.scopes];omega
end Go.Abs
end
