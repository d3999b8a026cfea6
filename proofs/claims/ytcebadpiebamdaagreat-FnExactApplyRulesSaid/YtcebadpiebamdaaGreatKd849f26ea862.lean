/- A part of the proof: what the functions that the law calls answer, as pure values. -/
import Derived.Test.YtcebadpiebamdaaGreatK5e26c0cd85ff
import Derived.Test.YtcebadpiebamdaaGreatK403ef3ea41a7
import Derived.Test.YtcebadpiebamdaaGreatKfd88efc704ec
import Derived.Test.YtcebadpiebamdaaGreatK331fa2d90bd9
set_option linter.unusedSimpArgs false
set_option linter.unusedVariables false
section
section
set_option linter.unusedVariables false
set_option linter.unusedSimpArgs false
namespace Go.Abs
noncomputable def same {α:Type} (a b:α):Bool:=@decide (a=b) (Classical.propDecidable _)
theorem wP {α:Type} {a b:α}:same a b=true↔a=b:=by unfold same;exact @decide_eq_true_iff _ (Classical.propDecidable _)
theorem qG {α:Type} (a:α):same a a=true:=wP.2 rfl
theorem zlT {α:Type} {a b:α} (h:a≠b):same a b=false:=by
 rw [<- Bool.not_eq_true,wP];exact h
theorem zqH {α:Type} (a b:α) [inst:Decidable (a=b)]:same a b=decide (a=b):=by
 rw [Bool.eq_iff_iff,wP,decide_eq_true_iff]
theorem zpy {α:Type} (a b:α) (xs ys:List α):same (a::xs) (b::ys)=(same a b&&same xs ys):=by
 rw [Bool.eq_iff_iff,Bool.and_eq_true,wP,wP,wP,List.cons.injEq]
theorem zjX {α:Type} {l:List α} {k:Nat} {x:α} (h:l[k]?=some x):l.drop k=x::l.drop (k+1):=by
 obtain ⟨hk,rfl⟩:=List.getElem?_eq_some_iff.1 h;exact List.drop_eq_getElem_cons hk
theorem zhk {α:Type} {xs ys:List α} (hl:xs.length=ys.length) {L:Nat->Int->Option Bool} {E:Nat->α->α->Option Bool}
  (h0:∀ m k,L (m+1) k=bif decide (k < (xs.length:Int)) then (idx xs k).bind fun a=>(idx ys k).bind fun b=>(E m a b).bind fun v=>bif !v then some false else L m (k+1) else some true)
  (hE:∀ a∈xs,∀ b∈ys,Tr (fun m=>E m a b) (same a b)):Tr (fun m=>L m 0) (same xs ys):=by
 have key:=aX xs (fun k zs=>Tr (fun m=>L m (k:Int)) (same zs (ys.drop k))) ?_ ?_ 0 (Nat.zero_le _)
 ·simpa using key
 ·rw [hl,List.drop_length,qG];exact Tr.step (fun m=>by rw [h0,hl,aP,cond_false]) Tr.val
 ·intro k x zs hk hx hd ih;have hk':k < ys.length:=by omega
  have hy:ys[k]?=some ys[k]:=List.getElem?_eq_getElem hk';rw [zjX hy,zpy];refine Tr.step (fun m=>by rw [h0,ltN hk,cond_true,aK hx,Option.bind_some,aK hy,Option.bind_some,cQ]) ?_;refine Tr.bind (hE x (List.mem_of_getElem? hx) ys[k] (List.getElem_mem hk')) ?_;cases h:same x ys[k] with
  | false=>exact Tr.tt rfl Tr.val
  | true=>exact Tr.ff rfl ih
theorem zjU {α:Type} [DecidableEq α] {xs ys:List α} (hl:xs.length=ys.length) {L:Nat->Int->Option Bool}
  (h0:∀ m k,L (m+1) k=bif decide (k < (xs.length:Int)) then (idx xs k).bind fun a=>(idx ys k).bind fun b=>bif decide (a≠b) then some false else L m (k+1) else some true):Tr (fun m=>L m 0) (same xs ys) :=
 zhk (E:=fun _ a b=>some (decide (a=b))) hl (fun m k=>by
  rw [h0];congr 1;congr 1;funext a;congr 1;funext b;rw [Option.bind_some];congr 1;simp) (fun a _ b _=>Tr.of (fun _=>by rw [zqH]))
def vN {α:Type} (D:α->Bool):List α->Bool
 | []=>true
 | x::xs=>D x&&vN D xs
theorem oF {α:Type} {D:α->Bool}:∀ {l:List α},vN D l=true↔∀ x∈l,D x=true
 | []=>by simp [vN]
 | x::xs=>by rw [vN,Bool.and_eq_true,oF];simp
theorem zm7 {α:Type} {xs:List α} {c:Bool} {D:α->Bool} {L:Nat->Int->Option Bool} {E:Nat->α->Option Bool}
  (h0:∀ m k,L (m+1) k=bif decide (k < (xs.length:Int)) then (idx xs k).bind fun a=>(E m a).bind fun v=>bif !v then some false else L m (k+1) else some c)
  (hE:∀ a∈xs,Tr (fun m=>E m a) (D a)):Tr (fun m=>L m 0) (vN D xs&&c):=by
 have key:=aX xs (fun k zs=>Tr (fun m=>L m (k:Int)) (vN D zs&&c)) ?_ ?_ 0 (Nat.zero_le _)
 ·simpa using key
 ·exact Tr.step (fun m=>by rw [h0,aP,cond_false]) (by simpa [vN] using Tr.val)
 ·intro k x zs hk hx hd ih;refine Tr.step (fun m=>by rw [h0,ltN hk,cond_true,aK hx,Option.bind_some,cQ]) ?_;refine Tr.bind (hE x (List.mem_of_getElem? hx)) ?_;rw [vN];cases h:D x with
  | false=>exact Tr.tt rfl Tr.val
  | true=>exact Tr.ff rfl (by simpa using ih)
def fnd {α:Type} (D:α->Bool):List α->Nat->Int
 | [],_=>-1
 | x::xs,k=>bif D x then (k:Int) else fnd D xs (k+1)
theorem zoR {α:Type} {D:α->Bool}:∀ {l:List α} {k:Nat},(0<=fnd D l k)↔∃ x∈l,D x=true
 | [],k=>by simp [fnd]
 | x::xs,k=>by
   rw [fnd];cases h:D x with
   | true=>simp [h]
   | false=>rw [cond_false,zoR];simp [h]
theorem mS {α:Type} {xs:List α} {D:α->Bool} {L:Nat->Int->Option Int} {E:Nat->α->Option Bool}
  (h0:∀ m k,L (m+1) k=bif decide (k < (xs.length:Int)) then (idx xs k).bind fun a=>(E m a).bind fun v=>bif v then some k else L m (k+1) else some (-1))
  (hE:∀ a∈xs,Tr (fun m=>E m a) (D a)):Tr (fun m=>L m 0) (fnd D xs 0):=by
 have key:=aX xs (fun k zs=>Tr (fun m=>L m (k:Int)) (fnd D zs k)) ?_ ?_ 0 (Nat.zero_le _)
 ·simpa using key
 ·exact Tr.step (fun m=>by rw [h0,aP,cond_false];rfl) Tr.val
 ·intro k x zs hk hx hd ih;refine Tr.step (fun m=>by rw [h0,ltN hk,cond_true,aK hx,Option.bind_some,cQ]) ?_;refine Tr.bind (hE x (List.mem_of_getElem? hx)) ?_;rw [fnd];cases h:D x with
  | false=>exact Tr.ff rfl ih
  | true=>exact Tr.tt rfl Tr.val
theorem zbp {α β:Type} {xs:List α} {z:β} {f:α->β} {L:Nat->Int->List β->Option (List β)} {E:Nat->α->Option β}
  (h0:∀ m k acc,L (m+1) k acc=bif decide (k < (xs.length:Int)) then (idx xs k).bind fun a=>(E m a).bind fun v=>(idx acc k).bind fun _=>L m (k+1) (acc.set k.toNat v) else some acc)
  (hE:∀ a∈xs,Tr (fun m=>E m a) (f a)):Tr (fun m=>L m 0 (List.replicate (xs.length:Int).toNat z)) (xs.map f):=by
 have key:=aX xs (fun k zs=>Tr (fun m=>L m (k:Int) ((xs.take k).map f++List.replicate zs.length z)) (xs.map f)) ?_ ?_ 0 (Nat.zero_le _)
 ·simpa using key
 ·exact Tr.step (fun m=>by rw [h0,aP,cond_false];simp) Tr.val
 ·intro k x zs hk hx hd ih;have hlen:((xs.take k).map f++List.replicate (x::zs).length z)[k]?=some z:=by
   rw [List.getElem?_append_right (by simp;omega)];simp [Nat.min_eq_left (Nat.le_of_lt hk)]
  refine Tr.step (fun m=>by rw [h0,ltN hk,cond_true,aK hx,Option.bind_some,aK hlen,cQ]) ?_;refine Tr.bind (hE x (List.mem_of_getElem? hx)) ?_;refine Tr.eq (fun m=>by rw [Option.bind_some]) ?_;have e:((xs.take k).map f++List.replicate (x::zs).length z).set (k:Int).toNat (f x)=(xs.take (k+1)).map f++List.replicate zs.length z:=by
   have h1:(xs.take (k+1))=xs.take k++[x]:=by
    rw [List.take_add_one,hx];rfl
   have hlk:((xs.take k).map f).length=k:=by simp;omega
   rw [h1,Int.toNat_natCast,List.set_append_right k (f x) (by omega),hlk,Nat.sub_self];simp [List.replicate_succ]
  rw [e];exact ih
end Go.Abs
end
section
set_option linter.unusedVariables false
set_option linter.unusedSimpArgs false
namespace Go.Abs
mutual
def Hit.w:Hit->Nat
 | .mk name _ one many=>1+name.w+one.w+Hit.ws many
def Hit.ws:List Hit->Nat
 | []=>0
 | f::fs=>1+f.w+Hit.ws fs
end
theorem Hit.ws_len:∀ (l:List Hit),l.length<=Hit.ws l
 | []=>by simp
 | f::fs=>by have:=Hit.ws_len fs;rw [Hit.ws,List.length_cons];omega
theorem Hit.ws_mem:∀ {l:List Hit} {x:Hit},x∈l->x.w < Hit.ws l
 | f::fs,x,h=>by
   rw [Hit.ws];rcases List.mem_cons.1 h with rfl | h
   ·omega
   ·have:=Hit.ws_mem h;omega
theorem Hit.w_parts (f:Hit):Hit.ws f.many+f.name.w+f.one.w+1=f.w:=by obtain ⟨a,b,c,d⟩:=f;simp only [Hit.w,Hit.many,Hit.name,Hit.one];omega
theorem aB.w_pos (f:aB):1<=f.w:=by have:=f.w_kids;omega
theorem zW {α:Type} {a b:List α} (h:a.length≠b.length):same a b=false:=zlT (fun e=>h (by rw [e]))
theorem zhH (a b:aB):same a b=(decide (a.kind=b.kind)&&(decide (a.name=b.name)&&(decide (a.n=b.n)&&(same a.scopes b.scopes&&same a.kids b.kids)))):=by
 obtain ⟨k,nm,n,sc,ki⟩:=a;obtain ⟨k',nm',n',sc',ki'⟩:=b
 show _=(decide (k=k')&&(decide (nm=nm')&&(decide (n=n')&&(same sc sc'&&same ki ki'))))
 rw [Bool.eq_iff_iff];simp only [Bool.and_eq_true,wP,decide_eq_true_eq,aB.mk.injEq]
theorem zrV {a b:Nat} (h:a≠b):decide ((a:Int)≠(b:Int))=true:=decide_eq_true (by omega)
theorem zp9 {a b:Nat} (h:a=b):decide ((a:Int)≠(b:Int))=false:=decide_eq_false (by omega)
theorem zi7 (a b:List Int):Tr (fun m=>kI m a b) (same a b):=by
 refine Tr.eq (fun m=>by unfold kI;rfl) ?_;by_cases h:a.length=b.length
 ·exact Tr.ff (zp9 h) (zjU h (L:=fun m k=>fM m a b k) (fun m k=>by rw [fM]))
 ·rw [zW h];exact Tr.tt (zrV h) Tr.val
theorem zk1 (a b:List Int):Tr (fun m=>rA m a b) (same a b):=by
 refine Tr.eq (fun m=>by unfold rA;rfl) ?_;by_cases h:a.length=b.length
 ·exact Tr.ff (zp9 h) (zjU h (L:=fun m k=>kX m a b k) (fun m k=>by rw [kX]))
 ·rw [zW h];exact Tr.tt (zrV h) Tr.val
theorem zlh (a b:List Int):Tr (fun m=>rG m a b) (same a b):=by
 refine Tr.eq (fun m=>by unfold rG;rfl) ?_;by_cases h:a.length=b.length
 ·exact Tr.ff (zp9 h) (zjU h (L:=fun m k=>kY m a b k) (fun m k=>by rw [kY]))
 ·rw [zW h];exact Tr.tt (zrV h) Tr.val
theorem ziP:∀ (n:Nat) (a b:aB),a.w<=n->Tr (fun m=>cD m a b) (same a b):=by
 intro n;induction n with
 | zero=>intro a b h;have:=a.w_pos;omega
 | succ n ih =>
   intro a b h;have hw:=a.w_kids;rw [zhH];refine Tr.step (fun m=>by rw [cD]) ?_;cases decide (a.kind=b.kind) with
   | false=>exact Tr.ff rfl Tr.val
   | true =>
   refine Tr.tt rfl ?_;cases decide (a.name=b.name) with
   | false=>exact Tr.ff rfl Tr.val
   | true =>
   refine Tr.tt rfl ?_;cases decide (a.n=b.n) with
   | false=>exact Tr.ff rfl Tr.val
   | true =>
   refine Tr.tt rfl (Tr.bind (zi7 _ _) ?_);cases same a.scopes b.scopes with
   | false=>exact Tr.ff rfl Tr.val
   | true =>
   refine Tr.tt rfl (Tr.bind (v:=same a.kids b.kids) (Tr.step (fun m=>by rw [dD]) ?_) Tr.val);by_cases hl:a.kids.length=b.kids.length
   ·exact Tr.ff (zp9 hl) (zhk hl (L:=fun m k=>bG m a.kids b.kids k) (E:=fun m x y=>cD m x y) (fun m k=>by rw [bG]) (fun x hx y _=>ih x y (by have:=aB.ws_mem hx;omega)))
   ·rw [zW hl];exact Tr.tt (zrV hl) Tr.val
theorem j8 (a b:aB):Tr (fun m=>cD m a b) (same a b):=ziP _ a b (Nat.le_refl _)
theorem ziD:∀ (n:Nat) (a b:aB),a.w<=n->Tr (fun m=>cY m a b) (same a b):=by
 intro n;induction n with
 | zero=>intro a b h;have:=a.w_pos;omega
 | succ n ih =>
   intro a b h;have hw:=a.w_kids;rw [zhH];refine Tr.step (fun m=>by rw [cY]) ?_;by_cases h1:a.kind=b.kind
   case neg=>rw [decide_eq_false h1];exact Tr.tt (by simpa using h1) Tr.val
   rw [decide_eq_true h1];refine Tr.ff (by simpa using h1) ?_;by_cases h2:a.name=b.name
   case neg=>rw [decide_eq_false h2];exact Tr.tt (by simpa using h2) Tr.val
   rw [decide_eq_true h2];refine Tr.ff (by simpa using h2) ?_;by_cases h3:a.n=b.n
   case neg=>rw [decide_eq_false h3];exact Tr.tt (by simpa using h3) Tr.val
   rw [decide_eq_true h3];refine Tr.ff (by simpa using h3) (Tr.bind (zk1 _ _) ?_);cases same a.scopes b.scopes with
   | false=>exact Tr.tt rfl Tr.val
   | true =>
   refine Tr.ff rfl ?_;by_cases hl:a.kids.length=b.kids.length
   ·exact Tr.ff (zp9 hl) (zhk hl (L:=fun m k=>iM m a b k) (E:=fun m x y=>cY m x y) (fun m k=>by rw [iM]) (fun x hx y _=>ih x y (by have:=aB.ws_mem hx;omega)))
   ·rw [zW hl];exact Tr.tt (zrV hl) Tr.val
theorem qO (a b:aB):Tr (fun m=>cY m a b) (same a b):=ziD _ a b (Nat.le_refl _)
theorem zrb:∀ (n:Nat) (a b:aB),a.w<=n->Tr (fun m=>dG m a b) (same a b):=by
 intro n;induction n with
 | zero=>intro a b h;have:=a.w_pos;omega
 | succ n ih =>
   intro a b h;have hw:=a.w_kids;rw [zhH];refine Tr.step (fun m=>by rw [dG]) ?_;by_cases h1:a.kind=b.kind
   case neg=>rw [decide_eq_false h1];exact Tr.tt (by simpa using h1) Tr.val
   rw [decide_eq_true h1];refine Tr.ff (by simpa using h1) ?_;by_cases h2:a.name=b.name
   case neg=>rw [decide_eq_false h2];exact Tr.tt (by simpa using h2) Tr.val
   rw [decide_eq_true h2];refine Tr.ff (by simpa using h2) ?_;by_cases h3:a.n=b.n
   case neg=>rw [decide_eq_false h3];exact Tr.tt (by simpa using h3) Tr.val
   rw [decide_eq_true h3];refine Tr.ff (by simpa using h3) (Tr.bind (zlh _ _) ?_);cases same a.scopes b.scopes with
   | false=>exact Tr.tt rfl Tr.val
   | true =>
   refine Tr.ff rfl (Tr.bind (v:=same a.kids b.kids) (Tr.step (fun m=>by rw [jM]) ?_) ?_)
   ·by_cases hl:a.kids.length=b.kids.length
    ·exact Tr.ff (zp9 hl) (zhk hl (L:=fun m k=>fY m a.kids b.kids k) (E:=fun m x y=>dG m x y) (fun m k=>by rw [fY]) (fun x hx y _=>ih x y (by have:=aB.ws_mem hx;omega)))
    ·rw [zW hl];exact Tr.tt (zrV hl) Tr.val
   ·cases same a.kids b.kids with
    | false=>exact Tr.tt rfl Tr.val
    | true=>exact Tr.ff rfl Tr.val
theorem zdS (a b:aB):Tr (fun m=>dG m a b) (same a b):=zrb _ a b (Nat.le_refl _)
theorem zkF (l:List Int) (h:l.length<=2 ^ 36):Tr (fun m=>mW m l) l:=by
 refine Tr.eq (fun m=>by unfold mW;rfl) (Tr.chk (by simp;omega) ?_);have:=zbp (xs:=l) (z:=(0:Int)) (f:=fun x=>x) (L:=fun m k acc=>fQ m l k acc) (E:=fun _ a=>some a) (fun m k acc=>by rw [fQ];rfl) (fun a _=>Tr.val);simpa using this
theorem zqD:∀ (n:Nat) (f:aB),f.w<=n->f.w<=2 ^ 36->Tr (fun m=>cH m f) f:=by
 intro n;induction n with
 | zero=>intro a h;have:=a.w_pos;omega
 | succ n ih =>
   intro f h hb;have hw:=f.w_kids;have hl:=aB.ws_len f.kids;refine Tr.step (fun m=>by rw [cH]) (Tr.bind (zkF _ (by omega)) (Tr.bind (v:=f.kids) ?_ ?_))
   ·refine Tr.step (fun m=>by rw [dT]) (Tr.chk (by simp;omega) ?_);have:=zbp (xs:=f.kids) (z:=aB.mk 0 (⟨#[]⟩:ByteArray) 0 ([]:List Int) ([]:List aB)) (f:=fun x=>x) (L:=fun m k acc=>cW m f.kids k acc) (E:=fun m a=>cH m a) (fun m k acc=>by rw [cW]) (fun a ha=>ih a (by have:=aB.ws_mem ha;omega) (by have:=aB.ws_mem ha;omega));simpa using this
   ·obtain ⟨a,b,c,d,e⟩:=f;exact Tr.val
theorem zdM (f:aB) (hb:f.w<=2 ^ 36):Tr (fun m=>cH m f) f:=zqD _ f (Nat.le_refl _) hb
end Go.Abs
end
section
set_option linter.unusedVariables false
set_option linter.unusedSimpArgs false
namespace Go.Abs
mutual
def aB.fit:aB->Prop
 | .mk _ name _ scopes kids=>name.size<=9223372036854775807/\scopes.length<=9223372036854775807/\kids.length<=9223372036854775807/\aB.fits kids
def aB.fits:List aB->Prop
 | []=>True
 | f::fs=>f.fit/\aB.fits fs
end
mutual
def Hit.fit:Hit->Prop
 | .mk name _ one many=>name.fit/\one.fit/\many.length<=9223372036854775807/\Hit.fits many
def Hit.fits:List Hit->Prop
 | []=>True
 | f::fs=>f.fit/\Hit.fits fs
end
theorem aB.fits_mem:∀ {l:List aB} {x:aB},aB.fits l->x∈l->x.fit
 | f::fs,x,h,hx=>by
   rw [aB.fits] at h;rcases List.mem_cons.1 hx with rfl | hx
   ·exact h.1
   ·exact aB.fits_mem h.2 hx
theorem Hit.fits_mem:∀ {l:List Hit} {x:Hit},Hit.fits l->x∈l->x.fit
 | f::fs,x,h,hx=>by
   rw [Hit.fits] at h;rcases List.mem_cons.1 hx with rfl | hx
   ·exact h.1
   ·exact Hit.fits_mem h.2 hx
theorem aB.fit.parts {f:aB} (h:f.fit):f.name.size<=9223372036854775807/\f.scopes.length<=9223372036854775807/\f.kids.length<=9223372036854775807/\aB.fits f.kids:=by
 obtain ⟨a,b,c,d,e⟩:=f;rw [aB.fit] at h;exact h
theorem Hit.fit.parts {f:Hit} (h:f.fit):f.name.fit/\f.one.fit/\f.many.length<=9223372036854775807/\Hit.fits f.many:=by
 obtain ⟨a,b,c,d⟩:=f;rw [Hit.fit] at h;exact h
mutual
def aB.wt:aB->Nat
 | .mk _ name _ scopes kids=>name.size+scopes.length+aB.wts kids
def aB.wts:List aB->Nat
 | []=>0
 | f::fs=>1+f.wt+aB.wts fs
end
mutual
def Hit.wt:Hit->Nat
 | .mk name _ one many=>name.wt+one.wt+Hit.wts many
def Hit.wts:List Hit->Nat
 | []=>0
 | f::fs=>1+f.wt+Hit.wts fs
end
theorem aB.wt_parts (f:aB):f.wt=f.name.size+f.scopes.length+aB.wts f.kids:=by obtain ⟨a,b,c,d,e⟩:=f;rw [aB.wt];rfl
mutual
theorem aB.w_wt:∀ f:aB,f.w<=1+2*f.wt
 | .mk a b c d e=>by
   have:=aB.ws_wts e;rw [aB.w,aB.wt];omega
theorem aB.ws_wts:∀ l:List aB,aB.ws l<=2*aB.wts l
 | []=>by simp [aB.ws]
 | f::fs=>by
   have h1:=aB.w_wt f;have h2:=aB.ws_wts fs;rw [aB.ws,aB.wts];omega
end
mutual
theorem Hit.w_wt:∀ f:Hit,f.w<=3+4*f.wt
 | .mk a b c d=>by
   have:=Hit.ws_wts d;have h1:=aB.w_wt a;have h2:=aB.w_wt c;rw [Hit.w,Hit.wt];omega
theorem Hit.ws_wts:∀ l:List Hit,Hit.ws l<=4*Hit.wts l
 | []=>by simp [Hit.ws]
 | f::fs=>by
   have h1:=Hit.w_wt f;have h2:=Hit.ws_wts fs;rw [Hit.ws,Hit.wts];omega
end
theorem geZ {a:Int} (h:0<=a):decide (a < 0)=false:=decide_eq_false (by omega)
def zkn (v:Int) (n:Nat) (r:Int):Prop:=r=-1∨(0<=r/\r=v-n)
theorem zkH (l:List Int) (v:Int) (hl:l.length<=9223372036854775807) (h0:0<=v) (h1:v<=2 ^ 40):TQ (fun m=>rD m l v) (zkn v l.length):=by
 refine TQ.eq (fun m=>by unfold rD;rw [bT (by omega)]) ?_;exact TQ.cond (fun _=>TQ.val (.inl rfl)) (fun h=>TQ.val (.inr ⟨by simpa using h,rfl⟩))
theorem zqF:∀ (n:Nat) (f:aB) (v:Int),f.w<=n->f.fit->0<=v->v<=2 ^ 40->TQ (fun m=>iG m f v) (zkn v f.wt):=by
 intro n;induction n with
 | zero=>intro a v h;have:=a.w_pos;omega
 | succ n ih =>
   intro f v h hf h0 h1;obtain ⟨f1,f2,f3,f4⟩:=hf.parts;have hw:=f.w_kids;have hwt:=f.wt_parts;refine TQ.step (fun m=>by rw [iG,bT (by omega)]) ?_;refine TQ.cond (fun _=>TQ.val (.inl rfl)) (fun h=>?_);replace h:0<=v-(f.name.size:Int):=by simpa using h
   refine TQ.bind (zkH _ _ f2 h (by omega)) (fun v2 h2=>?_);rcases h2 with rfl | ⟨h2,rfl⟩
   ·exact TQ.cond (fun _=>TQ.val (.inl rfl)) (fun h=>absurd h (by decide))
   refine TQ.cond (fun h=>absurd h (by rw [geZ h2];decide)) (fun _=>?_);refine TQ.bind (Q:=zkn (v-f.name.size-f.scopes.length) (aB.wts f.kids)) ?_ (fun v4 h4=>?_)
   ·refine TQ.step (fun m=>by rw [lN,bT (by omega)]) ?_;refine TQ.cond (fun _=>TQ.val (.inl rfl)) (fun h=>?_);replace h:0<=v-(f.name.size:Int)-f.scopes.length-f.kids.length:=by simpa using h
    have key:=aX f.kids (fun k zs=>∀ g:Int,0<=g->g<=2 ^ 40->TQ (fun m=>dN m f.kids g (k:Int)) (fun r=>r=-1∨(0<=r/\r=g-aB.wts zs+zs.length))) ?_ ?_ 0 (Nat.zero_le _) _ h (by omega)
    ·refine TQ.mono (by simpa using key) (fun r hr=>?_);rcases hr with hr | ⟨hr,he⟩
     ·exact .inl hr
     ·exact .inr ⟨hr,by rw [he];omega⟩
    ·intro g hg _;exact TQ.step (fun m=>by rw [dN,aP,cond_false]) (TQ.val (.inr ⟨hg,by simp [aB.wts]⟩))
    ·intro k x zs hk hx hd ihk g hg hg1;refine TQ.step (fun m=>by rw [dN,ltN hk,cond_true,aK hx,Option.bind_some,cQ]) ?_;have hm:=List.mem_of_getElem? hx;refine TQ.bind (ih x g (by have:=aB.ws_mem hm;omega) (aB.fits_mem f4 hm) hg hg1) (fun r hr=>?_);rcases hr with rfl | ⟨hr,rfl⟩
     ·exact TQ.cond (fun _=>TQ.val (.inl rfl)) (fun h=>absurd h (by decide))
     refine TQ.cond (fun h=>absurd h (by rw [geZ hr];decide)) (fun _=>?_);refine TQ.mono (ihk _ hr (by omega)) (fun r hr=>?_);rcases hr with hr | ⟨hr,he⟩
     ·exact .inl hr
     ·exact .inr ⟨hr,by rw [he,aB.wts,List.length_cons];omega⟩
   ·rcases h4 with rfl | ⟨h4,rfl⟩
    ·exact TQ.cond (fun _=>TQ.val (.inl rfl)) (fun h=>absurd h (by decide))
    refine TQ.cond (fun h=>absurd h (by rw [geZ h4];decide)) (fun _=>TQ.val (.inr ⟨h4,by omega⟩))
theorem zdN (f:aB) (v:Int) (hf:f.fit) (h0:0<=v) (h1:v<=2 ^ 40):TQ (fun m=>iG m f v) (zkn v f.wt):=zqF _ f v (Nat.le_refl _) hf h0 h1
end Go.Abs
end
section
set_option linter.unusedVariables false
set_option linter.unusedSimpArgs false
namespace Go.Abs
def zhm (c:Int) (first:Bool):Bool:=(decide (97<=c)&&decide (c<=122))||(decide (c=42)||(decide (c=63)||(decide (c=61)||(decide (c=43)||(decide (c=60)||(!first&&((decide (48<=c)&&decide (c<=57))||decide (c=45))))))))
theorem zmi (c:Int) (first:Bool):Tr (fun m=>qP m c first) (zhm c first):=by
 refine Tr.of (fun m=>?_);unfold qP zhm;cases decide (97<=c)<;>cases decide (c<=122)<;>cases decide (c=42)<;>cases decide (c=63)<;>cases decide (c=61)<;>cases decide (c=43)<;>cases decide (c=60)<;>cases first<;>cases decide (48<=c)<;>cases decide (c<=57)<;>rfl
def nmF:Nat->List UInt8->Bool
 | _,[]=>true
 | k,x::xs=>zhm (x.toNat:Int) (decide ((k:Int)=0))&&nmF (k+1) xs
def zsO (s:ByteArray):Bool:=decide (1<=(s.size:Int))&&decide ((s.size:Int)<=12)
def zor (s:ByteArray):Bool:=decide (s=(⟨#[46,46,46]⟩:ByteArray))||(decide (s=(⟨#[95]⟩:ByteArray))||(nmF 0 s.data.toList&&zsO s))
theorem zlS (s:ByteArray):s.size=s.data.toList.length:=by rw [ByteArray.size];simp
theorem zni {s:ByteArray} {k:Nat} {x:UInt8} (h:s.data.toList[k]?=some x):zrW s (k:Int)=some (x.toNat:Int):=by
 have hk:k < s.size:=by rw [zlS];exact (List.getElem?_eq_some_iff.1 h).1
 unfold zrW;rw [show (decide ((0:Int)<=k)&&decide ((k:Int) < s.size))=true by simp;omega,cond_true];rw [Int.toNat_natCast,zaV,List.getD_eq_getElem?_getD,h];rfl
theorem zhq (a b:Bool):(bif a then some b else some false)=some (a&&b):=by cases a<;>rfl
theorem zkL (s:ByteArray):Tr (fun m=>mO m s) (zor s):=by
 refine Tr.eq (fun m=>by unfold mO;rfl) ?_;unfold zor;cases decide (s=(⟨#[46,46,46]⟩:ByteArray)) with
 | true=>exact Tr.tt rfl Tr.val
 | false =>
 refine Tr.ff rfl ?_;cases decide (s=(⟨#[95]⟩:ByteArray)) with
 | true=>exact Tr.tt rfl Tr.val
 | false =>
 refine Tr.ff rfl ?_;have hs:=zlS s;have key:=aX s.data.toList (fun k zs=>Tr (fun m=>fG m s (k:Int)) (nmF k zs&&zsO s)) ?_ ?_ 0 (Nat.zero_le _)
 ·simpa using key
 ·refine Tr.step (fun m=>by rw [fG,hs,aP,cond_false,<- hs]) (Tr.of fun m=>?_);rw [zhq];rfl
 ·intro k x zs hk hx hd ih;refine Tr.step (fun m=>by rw [fG,ltN (show k < s.size by omega),cond_true]) ?_;by_cases h12:k<=12
  ·refine Tr.tt (decide_eq_true (by omega)) (Tr.eq (fun m=>by rw [zni hx,Option.bind_some,bT (by omega),cQ]) ?_);refine Tr.bind (zmi _ _) ?_;rw [nmF];cases zhm (x.toNat:Int) (decide ((k:Int)=0)) with
   | false=>exact Tr.tt rfl Tr.val
   | true=>exact Tr.ff rfl (by simpa using ih)
  ·refine Tr.ff (decide_eq_false (by omega)) (Tr.of fun m=>?_);have:zsO s=false:=by unfold zsO;rw [decide_eq_false (show ¬ (s.size:Int)<=12 by omega),Bool.and_false]
   rw [zhq,this,Bool.and_false];rw [decide_eq_false (show ¬ (s.size:Int)<=12 by omega),Bool.and_false]
theorem zbj (x lo hi:Int):Tr (fun m=>lF m x lo hi) (decide (lo<=x)&&decide (x<=hi)) :=
 Tr.of (fun m=>by unfold lF;rw [zhq])
theorem zsm (x:UInt8):decide (0<=Lib.indexByte [42,63,61,43,60] ((x.toNat:Int).toNat.toUInt8))=(decide ((x.toNat:Int)=42)||(decide ((x.toNat:Int)=63)||(decide ((x.toNat:Int)=61)||(decide ((x.toNat:Int)=43)||decide ((x.toNat:Int)=60))))):=by
 have hx:((x.toNat:Int).toNat.toUInt8)=x:=by rw [Int.toNat_natCast];exact UInt8.ofNat_toNat
 rw [hx]
 show decide (0<=Lib.indexByte [42,63,61,43,60] x)=_
 by_cases h1:x=42
 ·subst h1;decide
 by_cases h2:x=63
 ·subst h2;decide
 by_cases h3:x=61
 ·subst h3;decide
 by_cases h4:x=43
 ·subst h4;decide
 by_cases h5:x=60
 ·subst h5;decide
 have ne:∀ (y:UInt8) (z:Int),(y.toNat:Int)=z->x≠y->¬ ((x.toNat:Int)=z):=fun y z hz hy e=>hy (UInt8.toNat_inj.1 (by omega))
 have e:Lib.indexByte [42,63,61,43,60] x=-1:=by
  simp [Lib.indexByte,Ne.symm h1,Ne.symm h2,Ne.symm h3,Ne.symm h4,Ne.symm h5,beq_eq_false_iff_ne]
 rw [e,decide_eq_false (ne 42 42 rfl h1),decide_eq_false (ne 63 63 rfl h2),decide_eq_false (ne 61 61 rfl h3),decide_eq_false (ne 43 43 rfl h4),decide_eq_false (ne 60 60 rfl h5)];rfl
theorem zk6 (s:ByteArray) (hs:s.size<=9223372036854775807):Tr (fun m=>mQ m s) (zor s):=by
 refine Tr.eq (fun m=>by unfold mQ;rfl) ?_;unfold zor;cases decide (s=(⟨#[46,46,46]⟩:ByteArray)) with
 | true=>exact Tr.tt rfl Tr.val
 | false =>
 refine Tr.ff rfl ?_;cases decide (s=(⟨#[95]⟩:ByteArray)) with
 | true=>exact Tr.tt rfl Tr.val
 | false =>
 refine Tr.ff rfl ?_;have hsz:=zlS s;have key:=aX s.data.toList (fun k zs=>Tr (fun m=>bC m s (k:Int)) (nmF k zs&&zsO s)) ?_ ?_ 0 (Nat.zero_le _)
 ·simpa using key
 ·refine Tr.step (fun m=>by rw [bC,hsz,aP,cond_false,<- hsz]) ?_;refine Tr.bind (zbj _ _ _) Tr.val
 ·intro k x zs hk hx hd ih;refine Tr.step (fun m=>by rw [bC,ltN (show k < s.size by omega),cond_true,zni hx,Option.bind_some,bT (by omega),cQ]) ?_;simp only [oO,Option.bind_some,zsm];rw [nmF];unfold zhm;have hp:decide (0 < (k:Int))=!decide ((k:Int)=0):=by
   rw [Bool.eq_iff_iff,Bool.not_eq_true',decide_eq_true_iff,decide_eq_false_iff_not];omega
  rw [hp];rw [Bool.and_assoc];generalize hR:(nmF (k+1) zs&&zsO s)=R at ih ⊢;generalize decide (97<=(x.toNat:Int))=b1;generalize decide ((x.toNat:Int)<=122)=b2;generalize decide ((x.toNat:Int)=42)=c1;generalize decide ((x.toNat:Int)=63)=c2;generalize decide ((x.toNat:Int)=61)=c3;generalize decide ((x.toNat:Int)=43)=c4;generalize decide ((x.toNat:Int)=60)=c5;generalize decide ((k:Int)=0)=z;generalize decide (48<=(x.toNat:Int))=b3;generalize decide ((x.toNat:Int)<=57)=b4;generalize decide ((x.toNat:Int)=45)=b5;have hc:∀ a b c d e w:Bool,(a||(b||(c||(d||(e||w)))))=((a||(b||(c||(d||e))))||w):=by decide
  rw [hc c1 c2 c3 c4 c5];generalize (c1||(c2||(c3||(c4||c5))))=st;cases b1<;>cases b2<;>cases st<;>cases z<;>cases b3<;>cases b4<;>cases b5<;>first | exact Tr.val | exact ih
def gtP:Option Int->Int->Bool
 | none,_=>true
 | some q,x=>decide (q < x)
def scF:Option Int->List Int->Bool
 | _,[]=>true
 | p,x::xs=>(decide (1<=x)&&decide (x<=99))&&(gtP p x&&scF (some x) xs)
def zdv (l:List Int):Nat->Option Int
 | 0=>none
 | j+1=>l[j]?
def znt (l:List Int):Bool:=scF none l&&decide ((l.length:Int)<=24)
theorem zkS {l:List Int} {k:Nat} {x:Int} (h:l[k]?=some x):zdv l (k+1)=some x:=h
theorem zm2 (k:Nat):decide ((0:Int) < ((k+1:Nat):Int))=true:=decide_eq_true (by omega)
theorem zk5 (l:List Int) (hl:l.length<=9223372036854775807):Tr (fun m=>nT m l) (znt l):=by
 refine Tr.eq (fun m=>by unfold nT;rfl) ?_;have key:=aX l (fun k zs=>Tr (fun m=>e6 m l (k:Int)) (scF (zdv l k) zs&&decide ((l.length:Int)<=24))) ?_ ?_ 0 (Nat.zero_le _)
 ·simpa [znt,zdv] using key
 ·exact Tr.step (fun m=>by rw [e6,aP,cond_false];simp [scF]) Tr.val
 ·intro k x zs hk hx hd ih;rw [zkS hx] at ih;refine Tr.step (fun m=>by rw [e6,ltN hk,cond_true,aK hx,Option.bind_some,cQ]) ?_;refine Tr.bind (zbj _ _ _) ?_;rw [scF];cases (decide (1<=x)&&decide (x<=99)) with
  | false=>exact Tr.tt rfl Tr.val
  | true =>
  refine Tr.ff rfl ?_;cases k with
  | zero=>exact Tr.ff (by simp) (by simpa [zdv,gtP] using ih)
  | succ j =>
    have hj:l[j]?=some l[j]:=List.getElem?_eq_getElem (by omega);refine Tr.tt (zm2 j) (Tr.eq (fun m=>by rw [bT (by omega),show ((j+1:Nat):Int)-1=(j:Int) by omega,aK hj,Option.bind_some]) ?_);rw [show zdv l (j+1)=some l[j] from hj,gtP];by_cases h:x<=l[j]
    ·rw [decide_eq_false (show ¬ l[j] < x by omega)];exact Tr.tt (decide_eq_true h) Tr.val
    ·rw [decide_eq_true (show l[j] < x by omega)];exact Tr.ff (decide_eq_false h) (by simpa using ih)
theorem zkK (l:List Int) (hl:l.length<=9223372036854775807):Tr (fun m=>nQ m l) (znt l):=by
 refine Tr.eq (fun m=>by unfold nQ;rfl) ?_;have key:=aX l (fun k zs=>Tr (fun m=>eY m l (k:Int)) (scF (zdv l k) zs&&decide ((l.length:Int)<=24))) ?_ ?_ 0 (Nat.zero_le _)
 ·simpa [znt,zdv] using key
 ·exact Tr.step (fun m=>by rw [eY,aP,cond_false];simp [scF]) Tr.val
 ·intro k x zs hk hx hd ih;rw [zkS hx] at ih;refine Tr.step (fun m=>by rw [eY,ltN hk,cond_true]) ?_;by_cases h24:k<=24
  case neg =>
   refine Tr.ff (decide_eq_false (by omega)) (Tr.of fun m=>?_);rw [decide_eq_false (show ¬ (l.length:Int)<=24 by omega),Bool.and_false]
  refine Tr.tt (decide_eq_true (by omega)) (Tr.eq (fun m=>by rw [aK hx,Option.bind_some,Option.bind_some]) ?_);rw [scF];by_cases h1:x < 1
  ·rw [decide_eq_false (show ¬ 1<=x by omega)];exact Tr.tt (decide_eq_true h1) Tr.val
  rw [decide_eq_true (show 1<=x by omega)];refine Tr.ff (decide_eq_false h1) ?_;by_cases h2:99 < x
  ·rw [decide_eq_false (show ¬ x<=99 by omega)];exact Tr.tt (decide_eq_true h2) Tr.val
  rw [decide_eq_true (show x<=99 by omega)];refine Tr.ff (decide_eq_false h2) ?_;cases k with
  | zero=>exact Tr.ff (by simp) (Tr.eq (fun m=>by rw [bT (by omega),cQ]) (by simpa [zdv,gtP] using ih))
  | succ j =>
    have hj:l[j]?=some l[j]:=List.getElem?_eq_getElem (by omega);refine Tr.tt (zm2 j) (Tr.eq (fun m=>by rw [Option.bind_some,bT (by omega),show ((j+1:Nat):Int)-1=(j:Int) by omega,aK hj,Option.bind_some]) ?_);rw [show zdv l (j+1)=some l[j] from hj,gtP];by_cases h:x<=l[j]
    ·rw [decide_eq_false (show ¬ l[j] < x by omega)];exact Tr.tt (decide_eq_true h) Tr.val
    ·rw [decide_eq_true (show l[j] < x by omega)];exact Tr.ff (decide_eq_false h) (Tr.eq (fun m=>by rw [bT (by omega),cQ]) (by simpa using ih))
end Go.Abs
end
section
set_option linter.unusedVariables false
set_option linter.unusedSimpArgs false
namespace Go.Abs
mutual
def aB.isOk:aB->Nat->Bool
 | .mk kind name n scopes kids,d=>bif decide (d=0) then false else
   bif decide (kind=1) then (zor name&&(decide (n=0)&&(znt scopes&&decide ((kids.length:Int)=0))))
   else bif decide (kind=2) then (decide (name=(⟨#[]⟩:ByteArray))&&((decide (0<=n)&&decide (n<=999))&&(decide ((scopes.length:Int)=0)&&decide ((kids.length:Int)=0))))
   else (decide (kind=3)&&(decide (name=(⟨#[]⟩:ByteArray))&&(decide (n=0)&&(decide ((scopes.length:Int)=0)&&aB.isOks kids (d-1)))))
def aB.isOks:List aB->Nat->Bool
 | [],_=>true
 | f::fs,d=>f.isOk d&&aB.isOks fs d
end
mutual
def aB.cnt:aB->Nat
 | .mk _ _ _ _ kids=>1+aB.cnts kids
def aB.cnts:List aB->Nat
 | []=>0
 | f::fs=>f.cnt+aB.cnts fs
end
theorem aB.isOks_eq (d:Nat):∀ l:List aB,aB.isOks l d=vN (fun x=>x.isOk d) l
 | []=>rfl
 | f::fs=>by rw [aB.isOks,vN,aB.isOks_eq d fs]
theorem aB.isOk_eq (f:aB) (d:Nat):f.isOk d=bif decide (d=0) then false else
  bif decide (f.kind=1) then (zor f.name&&(decide (f.n=0)&&(znt f.scopes&&decide ((f.kids.length:Int)=0))))
  else bif decide (f.kind=2) then (decide (f.name=(⟨#[]⟩:ByteArray))&&((decide (0<=f.n)&&decide (f.n<=999))&&(decide ((f.scopes.length:Int)=0)&&decide ((f.kids.length:Int)=0))))
  else (decide (f.kind=3)&&(decide (f.name=(⟨#[]⟩:ByteArray))&&(decide (f.n=0)&&(decide ((f.scopes.length:Int)=0)&&vN (fun x=>x.isOk (d-1)) f.kids)))):=by
 obtain ⟨a,b,c,e,g⟩:=f;rw [aB.isOk,aB.isOks_eq];rfl
theorem aB.cnt_eq (f:aB):f.cnt=1+aB.cnts f.kids:=by obtain ⟨a,b,c,e,g⟩:=f;rw [aB.cnt];rfl
mutual
theorem aB.cnt_w:∀ f:aB,f.cnt<=f.w
 | .mk a b c d e=>by have:=aB.cnts_ws e;rw [aB.cnt,aB.w];omega
theorem aB.cnts_ws:∀ l:List aB,aB.cnts l<=aB.ws l
 | []=>by simp [aB.cnts]
 | f::fs=>by have:=aB.cnt_w f;have:=aB.cnts_ws fs;rw [aB.cnts,aB.ws];omega
end
def aB.valid (f:aB):Bool:=f.isOk 40&&decide (f.cnt<=400)
theorem zto:∀ (n:Nat) (f:aB) (d:Nat),f.w<=n->f.fit->d<=40->Tr (fun m=>qI m f (d:Int)) (f.isOk d):=by
 intro n;induction n with
 | zero=>intro a d h;have:=a.w_pos;omega
 | succ n ih =>
   intro f d h hf hd;obtain ⟨f1,f2,f3,f4⟩:=hf.parts;have hw:=f.w_kids;rw [aB.isOk_eq];refine Tr.step (fun m=>by rw [qI]) ?_;cases hd0:decide (d=0) with
   | true=>exact Tr.tt (decide_eq_true (by simpa using hd0)) Tr.val
   | false =>
   have hd1:d≠0:=by simpa using hd0
   refine Tr.ff (decide_eq_false (by omega)) ?_;rw [cond_false];cases decide (f.kind=1) with
   | true =>
     refine Tr.tt rfl (Tr.bind (zkL _) ?_);rw [cond_true];cases zor f.name with
     | false=>exact Tr.ff rfl Tr.val
     | true =>
     refine Tr.tt rfl ?_;cases decide (f.n=0) with
     | false=>exact Tr.ff rfl Tr.val
     | true =>
     refine Tr.tt rfl (Tr.bind (zkK _ f2) ?_);cases znt f.scopes with
     | false=>exact Tr.ff rfl Tr.val
     | true=>exact Tr.tt rfl Tr.val
   | false =>
   refine Tr.ff rfl ?_;rw [cond_false];cases decide (f.kind=2) with
   | true =>
     refine Tr.tt rfl (Tr.of fun m=>?_);rw [cond_true];cases decide (f.name=(⟨#[]⟩:ByteArray))<;>cases decide (0<=f.n)<;>cases decide (f.n<=999)<;>cases decide ((f.scopes.length:Int)=0)<;>rfl
   | false =>
   refine Tr.ff rfl ?_;rw [cond_false];by_cases h3:f.kind=3
   case neg=>rw [decide_eq_false h3];exact Tr.tt (by simpa using h3) Tr.val
   rw [decide_eq_true h3];refine Tr.ff (by simpa using h3) ?_;by_cases h4:f.name=(⟨#[]⟩:ByteArray)
   case neg=>rw [decide_eq_false h4];exact Tr.tt (by simpa using h4) Tr.val
   rw [decide_eq_true h4];refine Tr.ff (by simpa using h4) ?_;by_cases h5:f.n=0
   case neg=>rw [decide_eq_false h5];exact Tr.tt (by simpa using h5) Tr.val
   rw [decide_eq_true h5];refine Tr.ff (by simpa using h5) ?_;by_cases h6:(f.scopes.length:Int)=0
   case neg=>rw [decide_eq_false h6];exact Tr.tt (by rw [decide_eq_true_eq];exact h6) Tr.val
   rw [decide_eq_true h6];refine Tr.ff (by rw [decide_eq_false_iff_not];exact fun h=>h h6) ?_;have e:((d:Int)-1)=((d-1:Nat):Int):=by omega
   have:=zm7 (xs:=f.kids) (c:=true) (D:=fun x=>x.isOk (d-1)) (L:=fun m k=>nG m f (d:Int) k) (E:=fun m x=>qI m x (w64 ((d:Int)-1))) (fun m k=>by rw [nG]) (fun x hx=>by
    rw [bT (by omega),e];exact ih x (d-1) (by have:=aB.ws_mem hx;omega) (aB.fits_mem f4 hx) (by omega))
   simpa using this
theorem zhD:∀ (n:Nat) (f:aB),f.w<=n->f.w<=2 ^ 36->Tr (fun m=>lM m f) (f.cnt:Int):=by
 intro n;induction n with
 | zero=>intro a h;have:=a.w_pos;omega
 | succ n ih =>
   intro f h hb;have hw:=f.w_kids;have hc:=aB.cnts_ws f.kids;refine Tr.step (fun m=>by rw [lM]) ?_;have key:=aX f.kids (fun k zs=>∀ g:Nat,g+aB.ws zs<=2 ^ 37->Tr (fun m=>hI m f (g:Int) (k:Int)) ((g+aB.cnts zs:Nat):Int)) ?_ ?_ 0 (Nat.zero_le _) 1 (by simp;omega)
   ·rw [aB.cnt_eq];simpa using key
   ·intro g hg;exact Tr.step (fun m=>by rw [hI,aP,cond_false];simp [aB.cnts]) Tr.val
   ·intro k x zs hk hx hd ihk g hg;have hm:=List.mem_of_getElem? hx;have hxw:=aB.ws_mem hm;have hcx:=aB.cnt_w x;rw [aB.ws] at hg;refine Tr.step (fun m=>by rw [hI,ltN hk,cond_true,aK hx,Option.bind_some,cQ]) ?_;refine Tr.bind (ih x (by omega) (by omega)) ?_;refine Tr.eq (fun m=>by rw [bT (by omega),show (g:Int)+(x.cnt:Int)=((g+x.cnt:Nat):Int) by omega]) ?_;rw [aB.cnts,<- Nat.add_assoc];exact ihk _ (by omega)
theorem oX (f:aB) (hf:f.fit) (hb:f.w<=2 ^ 36):Tr (fun m=>gN m f) f.valid:=by
 refine Tr.eq (fun m=>by unfold gN;rfl) (Tr.bind (zto _ f 40 (Nat.le_refl _) hf (by omega)) ?_);unfold aB.valid;cases f.isOk 40 with
 | false=>exact Tr.ff rfl Tr.val
 | true =>
   refine Tr.tt rfl (Tr.bind (zhD _ f (Nat.le_refl _) hb) (Tr.of fun m=>?_));rw [Bool.true_and];congr 1;rw [Bool.eq_iff_iff,decide_eq_true_iff,decide_eq_true_iff];omega
theorem zq8:∀ (n:Nat) (f:aB) (d:Nat) (g:Int),f.w<=n->f.fit->1<=d->d<=41->0<=g->g<=400->TQ (fun m=>oK m f (d:Int) g) (fun r=>r.1=(f.isOk (41-d)&&decide ((f.cnt:Int)<=g))/\(r.1=true->r.2=g-f.cnt)):=by
 intro n;induction n with
 | zero=>intro a d g h;have:=a.w_pos;omega
 | succ n ih =>
   intro f d g h hf hd hd' hg hg';obtain ⟨f1,f2,f3,f4⟩:=hf.parts;have hw:=f.w_kids;have hcn:=f.cnt_eq;rw [aB.isOk_eq];refine TQ.step (fun m=>by rw [oK,bT (by omega)]) ?_;by_cases hg0:g-1 < 0
   ·refine TQ.eq (fun m=>by rw [decide_eq_true hg0,cond_true]) (TQ.val ⟨?_,fun h=>by cases h⟩);rw [decide_eq_false (show ¬ (f.cnt:Int)<=g by omega),Bool.and_false]
   refine TQ.eq (fun m=>by rw [decide_eq_false hg0,cond_false]) ?_;by_cases hd0:40 < (d:Int)
   ·refine TQ.eq (fun m=>by rw [decide_eq_true hd0,cond_true]) (TQ.val ⟨?_,fun h=>by cases h⟩);rw [decide_eq_true (show 41-d=0 by omega),cond_true,Bool.false_and]
   refine TQ.eq (fun m=>by rw [decide_eq_false hd0,cond_false]) ?_;rw [decide_eq_false (show ¬ 41-d=0 by omega),cond_false];have leaf:∀ (b:Bool),((b&&decide ((f.kids.length:Int)=0))=true->True):=fun _ _=>trivial
   have cnt1:(f.kids.length:Int)=0->(f.cnt:Int)=1:=fun h=>by
    have:f.kids=[]:=List.eq_nil_of_length_eq_zero (by omega);rw [hcn,this,aB.cnts];rfl
   have fin:TQ (fun _=>some ((decide ((f.kids.length:Int)=0)),g-1)) (fun r=>r.1=(decide ((f.kids.length:Int)=0)&&decide ((f.cnt:Int)<=g))/\(r.1=true->r.2=g-f.cnt)):=by
    refine TQ.val ⟨?_,fun h=>by have:=cnt1 (by simpa using h);omega⟩;by_cases hk:(f.kids.length:Int)=0
    ·have:=cnt1 hk;rw [decide_eq_true hk,decide_eq_true (show (f.cnt:Int)<=g by omega)];rfl
    ·rw [decide_eq_false hk];rfl
   have no:TQ (fun _=>some (false,g-1)) (fun r=>r.1=(false&&decide ((f.cnt:Int)<=g))/\(r.1=true->r.2=g-f.cnt)):=TQ.val ⟨rfl,fun h=>by cases h⟩;cases decide (f.kind=1) with
   | true =>
     refine TQ.eq (fun m=>by rw [cond_true]) (TQ.ev (zk6 _ f1) ?_);rw [cond_true];cases zor f.name with
     | false=>exact no
     | true =>
     refine TQ.eq (fun m=>by rw [cond_true]) ?_;cases decide (f.n=0) with
     | false=>exact no
     | true =>
     refine TQ.eq (fun m=>by rw [cond_true]) (TQ.ev (zk5 _ f2) ?_);cases znt f.scopes with
     | false=>exact no
     | true=>exact fin
   | false =>
   refine TQ.eq (fun m=>by rw [cond_false]) ?_;rw [cond_false];cases decide (f.kind=2) with
   | true =>
     refine TQ.eq (fun m=>by rw [cond_true]) ?_;rw [cond_true];cases decide (f.name=(⟨#[]⟩:ByteArray)) with
     | false=>exact no
     | true =>
     refine TQ.eq (fun m=>by rw [cond_true]) (TQ.ev (zbj _ _ _) ?_);cases (decide (0<=f.n)&&decide (f.n<=999)) with
     | false=>exact no
     | true =>
     refine TQ.eq (fun m=>by rw [cond_true]) ?_;cases decide ((f.scopes.length:Int)=0) with
     | false=>exact no
     | true=>exact fin
   | false =>
   refine TQ.eq (fun m=>by rw [cond_false]) ?_;rw [cond_false];cases decide (f.kind=3) with
   | false=>exact no
   | true =>
   refine TQ.eq (fun m=>by rw [cond_true]) ?_;by_cases h4:f.name=(⟨#[]⟩:ByteArray)
   case neg=>rw [decide_eq_false h4];exact TQ.eq (fun m=>by rw [decide_eq_true h4,cond_true]) no
   rw [decide_eq_true h4];refine TQ.eq (fun m=>by rw [decide_eq_false (fun h=>h h4),cond_false]) ?_;by_cases h5:f.n=0
   case neg=>rw [decide_eq_false h5];exact TQ.eq (fun m=>by rw [decide_eq_true h5,cond_true]) no
   rw [decide_eq_true h5];refine TQ.eq (fun m=>by rw [decide_eq_false (fun h=>h h5),cond_false]) ?_;by_cases h6:(f.scopes.length:Int)=0
   case neg=>rw [decide_eq_false h6];exact TQ.eq (fun m=>by rw [decide_eq_true (show 0 < (f.scopes.length:Int) by omega),cond_true]) no
   rw [decide_eq_true h6];refine TQ.eq (fun m=>by rw [decide_eq_false (show ¬ 0 < (f.scopes.length:Int) by omega),cond_false]) ?_;have key:=aX f.kids (fun k zs=>∀ g:Int,0<=g->g<=400->TQ (fun m=>i6 m f (d:Int) (k:Int) g) (fun r=>r.1=(vN (fun x=>x.isOk (41-d-1)) zs&&decide ((aB.cnts zs:Int)<=g))/\(r.1=true->r.2=g-aB.cnts zs))) ?_ ?_ 0 (Nat.zero_le _) (g-1) (by omega) (by omega)
   ·refine TQ.mono (by simpa using key) (fun r hr=>⟨?_,fun h=>by have:=hr.2 h;omega⟩);rw [hr.1];simp only [Bool.true_and];congr 1;rw [Bool.eq_iff_iff,decide_eq_true_iff,decide_eq_true_iff];omega
   ·intro g hg _;exact TQ.step (fun m=>by rw [i6,aP,cond_false]) (TQ.val ⟨by simp [vN,aB.cnts,hg],fun _=>by simp [aB.cnts]⟩)
   ·intro k x zs hk hx hdr ihk g hg hg';have hm:=List.mem_of_getElem? hx;refine TQ.step (fun m=>by rw [i6,ltN hk,cond_true,aK hx,Option.bind_some,cQ,bT (by omega),cQ]) ?_;refine TQ.bind (ih x (d+1) g (by have:=aB.ws_mem hm;omega) (aB.fits_mem f4 hm) (by omega) (by omega) hg hg') (fun r hr=>?_);obtain ⟨h1,h2⟩:=hr;have e:41-(d+1)=41-d-1:=by omega
    rw [e] at h1;refine TQ.cond (fun hb=>?_) (fun hb=>?_)
    ·refine TQ.val ⟨?_,fun h=>by cases h⟩;replace hb:r.1=false:=by simpa using hb
     rw [hb] at h1;rw [vN,aB.cnts];cases hx:x.isOk (41-d-1) with
     | false=>rfl
     | true =>
       rw [hx,Bool.true_and] at h1;have:¬ (x.cnt:Int)<=g:=of_decide_eq_false h1.symm;rw [decide_eq_false (show ¬ ((x.cnt+aB.cnts zs:Nat):Int)<=g by omega),Bool.and_false]
    ·replace hb:r.1=true:=by simpa using hb
     have h3:=h2 hb;rw [hb] at h1;have h4:=(Bool.and_eq_true _ _ ▸ h1.symm:_/\_)
     have h5:(x.cnt:Int)<=g:=of_decide_eq_true h4.2;refine TQ.mono (ihk r.2 (by omega) (by omega)) (fun q hq=>⟨?_,fun h=>by have:=hq.2 h;rw [aB.cnts];omega⟩);rw [hq.1,vN,aB.cnts,h4.1,Bool.true_and];congr 1;rw [Bool.eq_iff_iff,decide_eq_true_iff,decide_eq_true_iff];omega
theorem mR (f:aB) (hf:f.fit):Tr (fun m=>fS m f) f.valid:=by
 obtain ⟨r,h1,h2,_⟩:=zq8 _ f 1 400 (Nat.le_refl _) hf (by omega) (by omega) (by omega) (by omega);refine Tr.eq (fun m=>by unfold fS;rfl) (Tr.bind h1 (Tr.of fun m=>?_));rw [h2];unfold aB.valid;congr 2;rw [Bool.eq_iff_iff,decide_eq_true_iff,decide_eq_true_iff];omega
end Go.Abs
end
section
set_option linter.unusedVariables false
set_option linter.unusedSimpArgs false
namespace Go.Abs
abbrev zg1:ByteArray:=(⟨#[46,46,46]⟩:ByteArray)
abbrev s8:ByteArray:=(⟨#[95]⟩:ByteArray)
abbrev mF:aB:=aB.mk 0 (⟨#[]⟩:ByteArray) 0 ([]:List Int) ([]:List aB)
def zfD (f:aB):Bool:=decide (f.kind=1)&&f.valid
theorem t7 (f:aB) (hf:f.fit):Tr (fun m=>lG m f) (zfD f):=by
 refine Tr.eq (fun m=>by unfold lG;rfl) ?_;unfold zfD;cases decide (f.kind=1) with
 | false=>exact Tr.ff rfl Tr.val
 | true=>exact Tr.tt rfl (Tr.bind (mR f hf) Tr.val)
theorem zsz (f:aB) (hf:f.fit) (hb:f.w<=2 ^ 36):Tr (fun m=>xH m f) (zfD f):=by
 refine Tr.eq (fun m=>by unfold xH;rfl) ?_;unfold zfD;cases decide (f.kind=1) with
 | false=>exact Tr.ff rfl Tr.val
 | true=>exact Tr.tt rfl (Tr.bind (oX f hf hb) Tr.val)
mutual
noncomputable def Hit.isOk:Hit->Bool
 | .mk name depth one many=>zfD name&&(!decide (name.name=zg1)&&(!decide (name.name=s8)&&((decide (0<=depth)&&decide (depth<=3)) &&
   bif decide (depth=0) then (one.valid&&decide ((many.length:Int)=0)) else (same one mF&&(decide ((many.length:Int)<=400)&&Hit.isOks many name (depth-1))))))
noncomputable def Hit.isOks:List Hit->aB->Int->Bool
 | [],_,_=>true
 | x::xs,nm,d=>(same x.name nm&&(decide (x.depth=d)&&x.isOk))&&Hit.isOks xs nm d
end
theorem Hit.isOks_eq (nm:aB) (d:Int):∀ l:List Hit,Hit.isOks l nm d=vN (fun x=>same x.name nm&&(decide (x.depth=d)&&x.isOk)) l
 | []=>by rw [Hit.isOks,vN]
 | x::xs=>by rw [Hit.isOks,vN,Hit.isOks_eq nm d xs]
theorem Hit.isOk_eq (h:Hit):h.isOk=(zfD h.name&&(!decide (h.name.name=zg1)&&(!decide (h.name.name=s8)&&((decide (0<=h.depth)&&decide (h.depth<=3)) &&
  bif decide (h.depth=0) then (h.one.valid&&decide ((h.many.length:Int)=0)) else (same h.one mF&&(decide ((h.many.length:Int)<=400)&&vN (fun x=>same x.name h.name&&(decide (x.depth=h.depth-1)&&x.isOk)) h.many)))))):=by
 obtain ⟨a,b,c,d⟩:=h;rw [Hit.isOk,Hit.isOks_eq];rfl
theorem zgT {α:Type} {D:α->Bool} {l:List α} {k:Nat}:decide (0<=fnd D l k)=!vN (fun x=>!D x) l:=by
 rw [Bool.eq_iff_iff,decide_eq_true_iff,zoR,Bool.not_eq_true',<- Bool.not_eq_true,oF];constructor
 ·rintro ⟨x,hx,h⟩ hh;have:=hh x hx;rw [h] at this;cases this
 ·intro h;refine Classical.byContradiction fun hn=>h fun x hx=>?_
  cases hd:D x with
  | false=>rfl
  | true=>exact absurd ⟨x,hx,hd⟩ hn
theorem zsA:∀ (n:Nat) (h:Hit),h.w<=n->h.fit->Tr (fun m=>oE m h) h.isOk:=by
 intro n;induction n with
 | zero=>intro a h;have:=a.w_parts;omega
 | succ n ih =>
   intro h hn hf;obtain ⟨f1,f2,f3,f4⟩:=hf.parts;have hw:=h.w_parts;rw [Hit.isOk_eq];refine Tr.step (fun m=>by rw [oE]) (Tr.bind (t7 _ f1) ?_);cases zfD h.name with
   | false=>exact Tr.tt rfl Tr.val
   | true =>
   refine Tr.ff rfl ?_;cases decide (h.name.name=zg1) with
   | true=>exact Tr.tt rfl Tr.val
   | false =>
   refine Tr.ff rfl ?_;cases decide (h.name.name=s8) with
   | true=>exact Tr.tt rfl Tr.val
   | false =>
   refine Tr.ff rfl (Tr.bind (zbj _ _ _) ?_);cases hr:(decide (0<=h.depth)&&decide (h.depth<=3)) with
   | false=>exact Tr.tt rfl Tr.val
   | true =>
   obtain ⟨hr1,hr2⟩:0<=h.depth/\h.depth<=3:=by simpa using hr
   refine Tr.ff rfl ?_;cases decide (h.depth=0) with
   | true =>
     refine Tr.tt rfl (Tr.bind (mR _ f2) ?_);cases h.one.valid with
     | false=>exact Tr.ff rfl Tr.val
     | true=>exact Tr.tt rfl Tr.val
   | false =>
   refine Tr.ff rfl (Tr.bind (j8 _ _) ?_);simp only [cond_false,Bool.not_false,Bool.true_and];cases same h.one mF with
   | false=>exact Tr.ff rfl Tr.val
   | true =>
   refine Tr.tt rfl ?_;cases decide ((h.many.length:Int)<=400) with
   | false=>exact Tr.ff rfl Tr.val
   | true =>
   refine Tr.tt rfl ?_;have bad:∀ x∈h.many,Tr (fun m=>nH m x h) (!(same x.name h.name&&(decide (x.depth=h.depth-1)&&x.isOk))):=by
    intro x hx;refine Tr.step (fun m=>by rw [nH]) (Tr.bind (j8 _ _) ?_);cases same x.name h.name with
    | false=>exact Tr.tt rfl Tr.val
    | true =>
    refine Tr.ff rfl (Tr.eq (fun m=>by rw [bT (by omega)]) ?_);by_cases hd:x.depth=h.depth-1
    ·refine Tr.ff (decide_eq_false (fun h=>h hd)) (Tr.bind (ih x (by have:=Hit.ws_mem hx;omega) (Hit.fits_mem f4 hx)) ?_);rw [decide_eq_true hd];exact Tr.val
    ·rw [decide_eq_false hd];exact Tr.tt (decide_eq_true hd) Tr.val
   refine Tr.bind (v:=decide (0<=fnd (fun x=>!(same x.name h.name&&(decide (x.depth=h.depth-1)&&x.isOk))) h.many 0)) ?_ (Tr.of fun m=>?_)
   ·refine Tr.step (fun m=>by rw [cZ]) (Tr.bind ?_ Tr.val);refine Tr.step (fun m=>by rw [dZ]) ?_;exact mS (xs:=h.many) (L:=fun m k=>bK m h.many h k) (E:=fun m x=>nH m x h) (fun m k=>by rw [bK]) bad
   ·rw [zgT,Bool.not_not];simp only [Bool.not_not];rfl
theorem zq5 (h:Hit) (hf:h.fit):Tr (fun m=>oE m h) h.isOk:=zsA _ h (Nat.le_refl _) hf
noncomputable def hvF:List Hit->List Hit->Bool
 | _,[]=>true
 | ps,x::xs=>x.isOk&&(vN (fun y=>!same y.name x.name) ps&&hvF (ps++[x]) xs)
noncomputable def zgY (l:List Hit):Bool:=hvF [] l&&decide ((l.length:Int)<=20)
theorem nN {α:Type} {l:List α} {k:Nat} {x:α} (h:l[k]?=some x):l.take (k+1)=l.take k++[x]:=by
 rw [List.take_add_one,h];rfl
theorem zV {α:Type} {l:List α} {k:Nat} (h:k<=l.length):sub l 0 (k:Int)=some (l.take k):=by
 unfold sub;rw [show (decide ((0:Int)<=0)&&decide ((0:Int)<=k)&&decide ((k:Int)<=l.length))=true by simp;omega,cond_true];simp
theorem zgK (l:List Hit) (hf:Hit.fits l):Tr (fun m=>pG m l) (zgY l):=by
 refine Tr.eq (fun m=>by unfold pG;rfl) ?_;have key:=aX l (fun k zs=>Tr (fun m=>fK m l (k:Int)) (hvF (l.take k) zs&&decide ((l.length:Int)<=20))) ?_ ?_ 0 (Nat.zero_le _)
 ·simpa [zgY] using key
 ·exact Tr.step (fun m=>by rw [fK,aP,cond_false,hvF,Bool.true_and]) Tr.val
 ·intro k x zs hk hx hd ih;have hm:=List.mem_of_getElem? hx;rw [nN hx] at ih;refine Tr.step (fun m=>by rw [fK,ltN hk,cond_true,aK hx,Option.bind_some,cQ]) (Tr.bind (zq5 x (Hit.fits_mem hf hm)) ?_);rw [hvF];cases x.isOk with
  | false=>exact Tr.tt rfl Tr.val
  | true =>
  refine Tr.ff rfl (Tr.eq (fun m=>by rw [zV (by omega),Option.bind_some]) ?_);refine Tr.bind (v:=fnd (fun y=>same y.name x.name) (l.take k) 0) ?_ ?_
  ·refine Tr.eq (fun m=>by unfold qK;rfl) (Tr.bind ?_ Tr.val);refine Tr.eq (fun m=>by unfold d5;rfl) ?_;exact mS (xs:=l.take k) (L:=fun m j=>aV m (l.take k) x.name j) (E:=fun m y=>nI m y x.name) (fun m j=>by rw [aV]) (fun y _=>Tr.eq (fun m=>by unfold nI;rfl) (Tr.bind (j8 _ _) Tr.val))
  ·have e:=zgT (D:=fun y:Hit=>same y.name x.name) (l:=l.take k) (k:=0);cases ha:vN (fun y=>!same y.name x.name) (l.take k) with
   | false=>rw [ha] at e;exact Tr.tt e Tr.val
   | true=>rw [ha] at e;exact Tr.ff e (by simpa using ih)
end Go.Abs
end
section
set_option linter.unusedVariables false
set_option linter.unusedSimpArgs false
namespace Go.Abs
def aN (f:aB):Bool:=decide (f.kind=1)&&decide (f.name=zg1)
theorem tT (f:aB) (s:ByteArray):Tr (fun m=>f7 m f s) (decide (f.kind=1)&&decide (f.name=s)) :=
 Tr.of (fun m=>by unfold f7;rw [zhq])
theorem oU (f:aB):Tr (fun m=>dF m f) (aN f) :=
 Tr.of (fun m=>by unfold dF aN;rw [zhq])
noncomputable def zkm:List (aB × Int)->aB->Int
 | [],_=>-1
 | p::ps,f=>bif same p.1 f then p.2 else zkm ps f
noncomputable def dep (l:List (aB × Int)) (f:aB):Int:=bif decide (f.kind≠1) then -1 else zkm l f
theorem zl6 (f:aB):∀ (l:List (aB × Int)) (k:Nat),(fnd (fun y=>same y f) (l.map (·.1)) k=-1/\zkm l f=-1)∨(∃ i,fnd (fun y=>same y f) (l.map (·.1)) k=((k+i:Nat):Int)/\(l.map (·.2))[i]?=some (zkm l f))
 | [],k=>.inl ⟨rfl,rfl⟩
 | p::ps,k=>by
   rw [List.map_cons,fnd,zkm];cases h:same p.1 f with
   | true=>exact .inr ⟨0,rfl,rfl⟩
   | false =>
     simp only [cond_false];rcases zl6 f ps (k+1) with h | ⟨i,h1,h2⟩
     ·exact .inl h
     ·exact .inr ⟨i+1,by rw [h1];omega,by simpa using h2⟩
theorem zjr (l:List (aB × Int)) (f:aB):Tr (fun m=>pP m (l.map (·.1)) (l.map (·.2)) f) (dep l f):=by
 refine Tr.eq (fun m=>by unfold pP;rfl) ?_;unfold dep;cases decide (f.kind≠1) with
 | true=>exact Tr.tt rfl Tr.val
 | false =>
 refine Tr.ff rfl (Tr.bind (v:=fnd (fun y=>same y f) (l.map (·.1)) 0) ?_ ?_)
 ·refine Tr.eq (fun m=>by unfold e8;rfl) ?_;exact mS (L:=fun m j=>bF m (l.map (·.1)) f j) (E:=fun m y=>pE m y f) (fun m j=>by rw [bF]) (fun y _=>Tr.eq (fun m=>by unfold pE;rfl) (Tr.bind (j8 _ _) Tr.val))
 ·rcases zl6 f l 0 with ⟨h1,h2⟩ | ⟨i,h1,h2⟩
  ·rw [h1,h2];exact Tr.tt rfl Tr.val
  ·rw [h1,Nat.zero_add];exact Tr.ff (decide_eq_false (by omega)) (Tr.eq (fun m=>by rw [aK h2,Option.bind_some];rfl) Tr.val)
def nd (l:List Hit):List (aB × Int):=l.map fun h=>(h.name,h.depth)
theorem zoL (l:List Hit):(nd l).map (·.1)=l.map Hit.name:=by simp [nd]
theorem zoK (l:List Hit):(nd l).map (·.2)=l.map Hit.depth:=by simp [nd]
theorem zpe {α β:Type} (g:α->β) (D:β->Bool):∀ (l:List α) (k:Nat),fnd D (l.map g) k=fnd (fun x=>D (g x)) l k
 | [],k=>rfl
 | x::xs,k=>by rw [List.map_cons,fnd,fnd,zpe g D xs]
theorem zjh (l:List Hit) (f:aB):Tr (fun m=>pM m l f) (dep (nd l) f):=by
 refine Tr.eq (fun m=>by unfold pM;rfl) ?_;unfold dep;cases decide (f.kind≠1) with
 | true=>exact Tr.tt rfl Tr.val
 | false =>
 refine Tr.ff rfl (Tr.bind (v:=fnd (fun y=>same y f) ((nd l).map (·.1)) 0) ?_ ?_)
 ·refine Tr.eq (fun m=>by unfold oH;rfl) ?_;rw [zoL,zpe];exact mS (L:=fun m j=>gM m l f j) (E:=fun m y=>cY m y.name f) (fun m j=>by rw [gM]) (fun y _=>qO _ _)
 ·rcases zl6 f (nd l) 0 with ⟨h1,h2⟩ | ⟨i,h1,h2⟩
  ·rw [h1,h2];exact Tr.tt rfl Tr.val
  ·rw [h1,Nat.zero_add];rw [zoK,List.getElem?_map,Option.map_eq_some_iff] at h2;obtain ⟨y,hy,h2⟩:=h2;exact Tr.ff (decide_eq_false (by omega)) (Tr.eq (fun m=>by rw [aK hy,Option.bind_some,h2];rfl) Tr.val)
def fD:List aB->Bool
 | []=>false
 | y::_=>aN y
mutual
def aB.dotsOk (one:Bool):aB->Bool
 | .mk _ _ _ _ kids=>aB.kD one true false kids
def aB.kD (one:Bool):Bool->Bool->List aB->Bool
 | _,_,[]=>true
 | pd,sn,x::xs=>(bif aN x then (!pd&&!(one&&sn)) else x.dotsOk one)&&aB.kD one (aN x) (sn||aN x) xs
end
theorem aB.dotsOk_eq (one:Bool) (f:aB):f.dotsOk one=aB.kD one true false f.kids:=by obtain ⟨a,b,c,d,e⟩:=f;rw [aB.dotsOk];rfl
def zrp (l:List aB):Nat->Bool
 | 0=>true
 | j+1=>match l[j]? with
   | some y=>aN y
   | none=>true
theorem zew {l:List aB} {k:Nat} {x:aB} (h:l[k]?=some x):zrp l (k+1)=aN x:=by rw [zrp,h]
theorem zrc (one:Bool):∀ (n:Nat) (f:aB),f.w<=n->f.w<=2 ^ 36->Tr (fun m=>lH m f one) (f.dotsOk one):=by
 intro n;induction n with
 | zero=>intro a h;have:=a.w_pos;omega
 | succ n ih =>
   intro f h hb;have hw:=f.w_kids;have hlen:=aB.ws_len f.kids;rw [aB.dotsOk_eq];refine Tr.step (fun m=>by rw [lH]) ?_;have key:=aX f.kids (fun k zs=>Tr (fun m=>fR m f one (k:Int)) (aB.kD one (zrp f.kids k) (!vN (fun y=>!aN y) (f.kids.take k)) zs)) ?_ ?_ 0 (Nat.zero_le _)
   ·simpa [zrp,vN] using key
   ·exact Tr.step (fun m=>by rw [fR,aP,cond_false,aB.kD]) Tr.val
   ·intro k x zs hk hx hd ihk;have hm:=List.mem_of_getElem? hx;have hxw:=aB.ws_mem hm;rw [zew hx,nN hx] at ihk;have ea:∀ l:List aB,(!vN (fun y=>!aN y) (l++[x]))=((!vN (fun y=>!aN y) l)||aN x):=by
     intro l;induction l with
     | nil=>simp [vN]
     | cons y l ihl=>rw [List.cons_append,vN,vN,Bool.not_and,ihl,Bool.not_and,Bool.or_assoc]
    rw [ea] at ihk;refine Tr.step (fun m=>by rw [fR,ltN hk,cond_true,aK hx,Option.bind_some,cQ]) (Tr.bind (tT _ _) ?_);rw [show (decide (x.kind=1)&&decide (x.name=(⟨#[46,46,46]⟩:ByteArray)))=aN x from rfl,aB.kD];cases hxd:aN x with
    | false =>
      rw [hxd] at ihk;refine Tr.ff rfl (Tr.bind (ih x (by omega) (by omega)) ?_);rw [cond_false];cases x.dotsOk one with
      | false=>exact Tr.tt rfl Tr.val
      | true=>exact Tr.ff rfl (by simpa using ihk)
    | true =>
      rw [hxd] at ihk;refine Tr.tt rfl ?_;rw [cond_true];cases k with
      | zero=>exact Tr.tt rfl Tr.val
      | succ j =>
        have hj:f.kids[j]?=some f.kids[j]:=List.getElem?_eq_getElem (by omega);refine Tr.ff (decide_eq_false (by omega)) (Tr.eq (fun m=>by rw [bT (by omega),show ((j+1:Nat):Int)-1=(j:Int) by omega,aK hj,Option.bind_some]) (Tr.bind (tT _ _) ?_));rw [show (decide (f.kids[j].kind=1)&&decide (f.kids[j].name=(⟨#[46,46,46]⟩:ByteArray)))=aN f.kids[j] from rfl,zew hj];cases aN f.kids[j] with
        | true=>exact Tr.tt rfl Tr.val
        | false =>
        refine Tr.ff rfl ?_;cases one with
        | false=>exact Tr.ff rfl (by simpa using ihk)
        | true =>
          refine Tr.tt rfl (Tr.eq (fun m=>by rw [zV (by omega),Option.bind_some]) ?_);refine Tr.bind (v:=fnd aN (f.kids.take (j+1)) 0) ?_ ?_
          ·refine Tr.eq (fun m=>by unfold oL;rfl) (Tr.bind ?_ Tr.val);refine Tr.eq (fun m=>by unfold dC;rfl) ?_;exact mS (L:=fun m i=>aS m (f.kids.take (j+1)) i) (E:=fun m y=>l6 m y) (fun m i=>by rw [aS]) (fun y _=>Tr.eq (fun m=>by unfold l6;rfl) (Tr.bind (tT _ _) Tr.val))
          ·have e:=zgT (D:=aN) (l:=f.kids.take (j+1)) (k:=0);cases ha:vN (fun y=>!aN y) (f.kids.take (j+1)) with
           | false=>rw [ha] at e;exact Tr.tt e Tr.val
           | true=>rw [ha] at e ihk;exact Tr.ff e (by simpa using ihk)
theorem zli (one:Bool) (f:aB) (hb:f.w<=2 ^ 36):Tr (fun m=>lH m f one) (f.dotsOk one):=zrc one _ f (Nat.le_refl _) hb
end Go.Abs
end
section
set_option linter.unusedVariables false
set_option linter.unusedSimpArgs false
namespace Go.Abs
mutual
noncomputable def aB.anyD (l:List (aB × Int)) (v:Int):aB->Bool
 | .mk k nm n sc kids=>decide (v < dep l (.mk k nm n sc kids))||aB.anyDs l v kids
noncomputable def aB.anyDs (l:List (aB × Int)) (v:Int):List aB->Bool
 | []=>false
 | x::xs=>x.anyD l v||aB.anyDs l v xs
end
theorem aB.anyD_eq (l:List (aB × Int)) (v:Int) (f:aB):f.anyD l v=(decide (v < dep l f)||aB.anyDs l v f.kids):=by obtain ⟨a,b,c,d,e⟩:=f;rw [aB.anyD];rfl
theorem ztp (l:List (aB × Int)) (v:Int):∀ (n:Nat) (f:aB) (b:Bool),f.w<=n->Tr (fun m=>dP m f b (l.map (·.1)) (l.map (·.2)) v) (b||f.anyD l v):=by
 intro n;induction n with
 | zero=>intro a b h;have:=a.w_pos;omega
 | succ n ih =>
   intro f b h;have hw:=f.w_kids;rw [aB.anyD_eq];refine Tr.step (fun m=>by rw [dP]) (Tr.bind (v:=b||decide (v < dep l f)) ?_ ?_)
   ·refine Tr.eq (fun m=>by unfold t8;rfl) ?_;cases b with
    | true=>exact Tr.tt rfl Tr.val
    | false=>exact Tr.ff rfl (Tr.bind (zjr l f) Tr.val)
   ·have key:=aX f.kids (fun k zs=>∀ b:Bool,Tr (fun m=>bS m f (l.map (·.1)) (l.map (·.2)) v (k:Int) b) (b||aB.anyDs l v zs)) ?_ ?_ 0 (Nat.zero_le _) (b||decide (v < dep l f))
    ·rw [<- Bool.or_assoc];simpa using key
    ·intro b;exact Tr.step (fun m=>by rw [bS,aP,cond_false,aB.anyDs,Bool.or_false]) Tr.val
    ·intro k x zs hk hx hd ihk b;have hm:=aB.ws_mem (List.mem_of_getElem? hx);refine Tr.step (fun m=>by rw [bS,ltN hk,cond_true,aK hx,Option.bind_some,cQ]) (Tr.bind (ih x b (by omega)) ?_);rw [aB.anyDs,<- Bool.or_assoc];exact ihk _
def zix (k:Nat) (d:Int):Int:=bif decide (0 < d) then (bif decide ((k:Int) < d) then d-k else 0) else d
theorem zpG (k:Nat) (d:Int):(0 < zix k d)↔(k:Int) < d:=by
 unfold zix;by_cases h:0 < d
 ·rw [decide_eq_true h,cond_true];by_cases h2:(k:Int) < d
  ·rw [decide_eq_true h2,cond_true];omega
  ·rw [decide_eq_false h2,cond_false];omega
 ·rw [decide_eq_false h,cond_false];omega
theorem znX (k:Nat) (d:Int):zix (k+1) d=bif decide (0 < zix k d) then zix k d-1 else zix k d:=by
 unfold zix;by_cases h:0 < d
 ·rw [decide_eq_true h,cond_true,cond_true];by_cases h2:(k:Int) < d
  ·rw [decide_eq_true h2,cond_true,decide_eq_true (show 0 < d-(k:Int) by omega),cond_true];by_cases h3:((k+1:Nat):Int) < d
   ·rw [decide_eq_true h3,cond_true];omega
   ·rw [decide_eq_false h3,cond_false];omega
  ·rw [decide_eq_false h2,cond_false,decide_eq_false (show ¬ ((k+1:Nat):Int) < d by omega),cond_false];rfl
 ·rw [decide_eq_false h,cond_false,cond_false,decide_eq_false h,cond_false]
theorem znW (d:Int):zix 0 d=d:=by
 unfold zix;by_cases h:0 < d
 ·rw [decide_eq_true h,cond_true,decide_eq_true (show ((0:Nat):Int) < d by omega),cond_true];omega
 ·rw [decide_eq_false h,cond_false]
def zg0 (h:Hit):Hit:=Hit.mk h.name (bif decide (0 < h.depth) then h.depth-1 else h.depth) h.one ([]:List Hit)
theorem zpI (l:List Hit) (hl:l.length<=2 ^ 36) (hd:∀ h∈l,-9223372036854775808<=h.depth/\h.depth<=9223372036854775807):Tr (fun m=>tY m l) (l.map zg0):=by
 refine Tr.eq (fun m=>by unfold tY;rfl) ?_;have key:=aX l (fun k zs=>Tr (fun m=>gK m l ((l.take k).map zg0) (k:Int)) (l.map zg0)) ?_ ?_ 0 (Nat.zero_le _)
 ·simpa using key
 ·exact Tr.step (fun m=>by rw [gK,aP,cond_false];simp) Tr.val
 ·intro k x zs hk hx hdr ih;have hlk:((l.take k).map zg0).length=k:=by simp;omega
  rw [nN hx,List.map_append] at ih;obtain ⟨d1,d2⟩:=hd x (List.mem_of_getElem? hx);refine Tr.step (fun m=>by rw [gK,ltN hk,cond_true,aK hx,Option.bind_some,Option.bind_some,Option.bind_some,cQ]) ?_;by_cases h:0 < x.depth
  ·refine Tr.tt (decide_eq_true h) (Tr.chk (decide_eq_true (by rw [hlk];simp only [List.length_cons,List.length_nil];omega)) ?_);rw [show List.map zg0 [x]=[Hit.mk x.name (x.depth-1) x.one []] by simp [zg0,h]] at ih;exact Tr.eq (fun m=>by rw [bT (by omega)]) ih
  ·refine Tr.ff (decide_eq_false h) (Tr.chk (decide_eq_true (by rw [hlk];simp only [List.length_cons,List.length_nil];omega)) ?_);rw [show List.map zg0 [x]=[Hit.mk x.name x.depth x.one []] by simp [zg0,h]] at ih;exact ih
theorem znf (f:aB):∀ l:List Hit,zkm (nd (l.map zg0)) f=bif decide (0 < zkm (nd l) f) then zkm (nd l) f-1 else zkm (nd l) f
 | []=>rfl
 | h::hs=>by
   have ih:=znf f hs;simp only [nd,List.map_cons,List.map_map] at ih ⊢;rw [zkm,zkm]
   show (bif same h.name f then _ else _)=_
   simp only;cases same h.name f with
   | true=>rfl
   | false=>simp only [cond_false];exact ih
theorem zsG (f:aB) (l:List Hit):dep (nd (l.map zg0)) f=bif decide (0 < dep (nd l) f) then dep (nd l) f-1 else dep (nd l) f:=by
 unfold dep;cases decide (f.kind≠1) with
 | true=>rfl
 | false=>simp only [cond_false];exact znf f l
structure zqa (k:Nat) (l' l:List Hit):Prop where
 dep:∀ f,Abs.dep (nd l') f=zix k (Abs.dep (nd l) f)
 len:l'.length=l.length
 fit:∀ h∈l',-9223372036854775808<=h.depth/\h.depth<=9223372036854775807
theorem zqa.zero {l:List Hit} (h:∀ h∈l,-9223372036854775808<=h.depth/\h.depth<=9223372036854775807):zqa 0 l l:=⟨fun f=>(znW _).symm,rfl,h⟩
theorem zqa.succ {k:Nat} {l' l:List Hit} (h:zqa k l' l):zqa (k+1) (l'.map zg0) l:=by
 refine ⟨fun f=>by rw [zsG,h.dep f,znX],by rw [List.length_map,h.len],fun y hy=>?_⟩;obtain ⟨x,hx,rfl⟩:=List.mem_map.1 hy;obtain ⟨h1,h2⟩:=h.fit x hx
 show -9223372036854775808<=(bif decide (0 < x.depth) then x.depth-1 else x.depth)/\(bif decide (0 < x.depth) then x.depth-1 else x.depth)<=9223372036854775807
 by_cases h0:0 < x.depth
 ·rw [decide_eq_true h0,cond_true];omega
 ·rw [decide_eq_false h0,cond_false];exact ⟨h1,h2⟩
theorem zqa.pos {k:Nat} {l' l:List Hit} (h:zqa k l' l) (f:aB):decide (0 < Abs.dep (nd l') f)=decide ((k:Int) < Abs.dep (nd l) f):=by
 rw [h.dep f,Bool.eq_iff_iff,decide_eq_true_iff,decide_eq_true_iff];exact zpG k _
theorem zqY {k:Nat} {l' l:List Hit} (hr:zqa k l' l):∀ (n:Nat) (f:aB),f.w<=n->Tr (fun m=>oG m l' f) (f.anyD (nd l) k):=by
 intro n;induction n with
 | zero=>intro a h;have:=a.w_pos;omega
 | succ n ih =>
   intro f h;have hw:=f.w_kids;rw [aB.anyD_eq];refine Tr.step (fun m=>by rw [oG]) (Tr.bind (zjh l' f) ?_);rw [<- hr.pos f];cases h0:decide (0 < Abs.dep (nd l') f) with
   | true=>exact Tr.tt rfl Tr.val
   | false =>
   refine Tr.ff rfl ?_;rw [Bool.false_or];have key:=aX f.kids (fun j zs=>Tr (fun m=>iR m l' f (j:Int)) (aB.anyDs (nd l) k zs)) ?_ ?_ 0 (Nat.zero_le _)
   ·simpa using key
   ·exact Tr.step (fun m=>by rw [iR,aP,cond_false,aB.anyDs]) Tr.val
   ·intro j x zs hk hx hd ihk;have hm:=aB.ws_mem (List.mem_of_getElem? hx);refine Tr.step (fun m=>by rw [iR,ltN hk,cond_true,aK hx,Option.bind_some,cQ]) (Tr.bind (ih x (by omega)) ?_);rw [aB.anyDs];cases x.anyD (nd l) k with
    | true=>exact Tr.tt rfl Tr.val
    | false=>exact Tr.ff rfl ihk
mutual
noncomputable def aB.rws (l:List (aB × Int)):Nat->aB->Bool
 | v,.mk k nm n sc kids=>!decide ((v:Int) < dep l (.mk k nm n sc kids))&&aB.kR l v kids
noncomputable def aB.kR (l:List (aB × Int)):Nat->List aB->Bool
 | _,[]=>true
 | v,x::xs=>(bif aN x then true else bif fD xs then (x.anyD l v&&x.rws l (v+1)) else x.rws l v)&&aB.kR l v xs
end
theorem aB.rws_eq (l:List (aB × Int)) (v:Nat) (f:aB):f.rws l v=(!decide ((v:Int) < dep l f)&&aB.kR l v f.kids):=by obtain ⟨a,b,c,d,e⟩:=f;rw [aB.rws];rfl
theorem zbS {l:List aB} {k:Nat} {x:aB} {zs:List aB} (hd:l.drop k=x::zs):(zs=[]/\l.length=k+1)∨(∃ y ys,zs=y::ys/\l[k+1]?=some y/\k+1 < l.length):=by
 have hl:l.length=k+(x::zs).length:=by
  have:=congrArg List.length hd;rw [List.length_drop] at this;have:(x::zs).length≠0:=by simp
  omega
 cases zs with
 | nil=>exact .inl ⟨rfl,by simpa using hl⟩
 | cons y ys =>
   refine .inr ⟨y,ys,rfl,?_,by rw [hl];simp⟩;have:(l.drop k)[1]?=some y:=by rw [hd];rfl
   rwa [List.getElem?_drop] at this
theorem zqI (l:List (aB × Int)):∀ (n:Nat) (f:aB) (v:Nat),f.w<=n->f.w+v<=2 ^ 37->Tr (fun m=>jL m f (l.map (·.1)) (l.map (·.2)) (v:Int)) (f.rws l v):=by
 intro n;induction n with
 | zero=>intro a v h;have:=a.w_pos;omega
 | succ n ih =>
   intro f v h hb;have hw:=f.w_kids;have hlen:=aB.ws_len f.kids;rw [aB.rws_eq];refine Tr.step (fun m=>by rw [jL]) (Tr.bind (zjr l f) ?_);cases h0:decide ((v:Int) < dep l f) with
   | true=>exact Tr.tt rfl Tr.val
   | false =>
   refine Tr.ff rfl ?_;rw [Bool.not_false,Bool.true_and];have key:=aX f.kids (fun k zs=>Tr (fun m=>dL m f (l.map (·.1)) (l.map (·.2)) (v:Int) (k:Int)) (aB.kR l v zs)) ?_ ?_ 0 (Nat.zero_le _)
   ·simpa using key
   ·exact Tr.step (fun m=>by rw [dL,aP,cond_false,aB.kR]) Tr.val
   ·intro k x zs hk hx hd ihk;have hm:=aB.ws_mem (List.mem_of_getElem? hx);refine Tr.step (fun m=>by rw [dL,ltN hk,cond_true,aK hx,Option.bind_some,cQ]) (Tr.bind (tT _ _) ?_);rw [show (decide (x.kind=1)&&decide (x.name=(⟨#[46,46,46]⟩:ByteArray)))=aN x from rfl,aB.kR];cases aN x with
    | true=>exact Tr.tt rfl ihk
    | false =>
    refine Tr.ff rfl ?_;rw [cond_false];have plain:Tr (fun m=>(jL m x (l.map (·.1)) (l.map (·.2)) (v:Int)).bind fun v20=>bif (!v20) then some false else dL m f (l.map (·.1)) (l.map (·.2)) (v:Int) ((k+1:Nat):Int)) (x.rws l v&&aB.kR l v zs):=by
     refine Tr.bind (ih x v (by omega) (by omega)) ?_;cases x.rws l v with
     | false=>exact Tr.tt rfl Tr.val
     | true=>exact Tr.ff rfl (by simpa using ihk)
    rcases zbS hd with ⟨rfl,hl⟩ | ⟨y,ys,rfl,hy,hl⟩
    ·exact Tr.ff (decide_eq_false (by omega)) plain
    ·refine Tr.tt (decide_eq_true (by omega)) (Tr.eq (fun m=>by rw [aK hy,Option.bind_some]) (Tr.bind (tT _ _) ?_));rw [show (decide (y.kind=1)&&decide (y.name=(⟨#[46,46,46]⟩:ByteArray)))=aN y from rfl,fD];cases aN y with
     | false=>exact Tr.ff rfl plain
     | true =>
     refine Tr.tt rfl (Tr.bind (ztp l v _ x false (Nat.le_refl _)) ?_);rw [Bool.false_or,cond_true];cases x.anyD l v with
     | false=>exact Tr.tt rfl Tr.val
     | true =>
     refine Tr.ff rfl (Tr.eq (fun m=>by rw [bT (by omega),cQ]) (Tr.bind (ih x (v+1) (by omega) (by omega)) ?_));rw [Bool.true_and];cases x.rws l (v+1) with
     | false=>exact Tr.tt rfl Tr.val
     | true=>exact Tr.ff rfl (by simpa using ihk)
mutual
noncomputable def aB.isT (l:List (aB × Int)):Nat->aB->Bool
 | v,.mk k nm n sc kids=>!aN (.mk k nm n sc kids)&&(!decide ((v:Int) < dep l (.mk k nm n sc kids))&&aB.kT l v true kids)
noncomputable def aB.kT (l:List (aB × Int)):Nat->Bool->List aB->Bool
 | _,_,[]=>true
 | v,pd,x::xs=>(bif aN x then !pd else bif fD xs then (x.anyD l v&&x.isT l (v+1)) else x.isT l v)&&aB.kT l v (aN x) xs
end
theorem aB.isT_eq (l:List (aB × Int)) (v:Nat) (f:aB):f.isT l v=(!aN f&&(!decide ((v:Int) < dep l f)&&aB.kT l v true f.kids)):=by obtain ⟨a,b,c,d,e⟩:=f;rw [aB.isT];rfl
mutual
theorem aB.isT_two (l:List (aB × Int)):∀ (f:aB) (v:Nat),f.isT l v=(!aN f&&(f.dotsOk false&&f.rws l v))
 | .mk k nm n sc kids,v=>by
   have:=aB.kT_two l kids v true false;rw [aB.isT,aB.dotsOk,aB.rws,this];cases aN (.mk k nm n sc kids)<;>cases decide ((v:Int) < dep l (.mk k nm n sc kids))<;>cases aB.kD false true false kids<;>rfl
theorem aB.kT_two (l:List (aB × Int)):∀ (zs:List aB) (v:Nat) (pd sn:Bool),aB.kT l v pd zs=(aB.kD false pd sn zs&&aB.kR l v zs)
 | [],v,pd,sn=>by rw [aB.kT,aB.kD,aB.kR];rfl
 | x::xs,v,pd,sn=>by
   have h1:=aB.isT_two l x v;have h2:=aB.isT_two l x (v+1);have h3:=aB.kT_two l xs v (aN x) (sn||aN x);rw [aB.kT,aB.kD,aB.kR,h1,h2,h3];cases aN x<;>cases fD xs<;>cases pd<;>cases x.dotsOk false<;>cases x.anyD l v<;>cases x.rws l v<;>cases x.rws l (v+1)<;>simp
end
theorem ztn (l:List Hit) (hll:l.length<=2 ^ 36):∀ (n:Nat) (f:aB) (v:Nat) (l':List Hit),f.w<=n->f.w<=2 ^ 36->zqa v l' l->Tr (fun m=>nD m f l') (f.isT (nd l) v):=by
 intro n;induction n with
 | zero=>intro a v l' h;have:=a.w_pos;omega
 | succ n ih =>
   intro f v l' h hb hr;have hw:=f.w_kids;have hlen:=aB.ws_len f.kids;rw [aB.isT_eq];refine Tr.step (fun m=>by rw [nD]) (Tr.bind (oU f) ?_);cases aN f with
   | true=>exact Tr.tt rfl Tr.val
   | false =>
   refine Tr.ff rfl (Tr.bind (zjh l' f) ?_);rw [<- hr.pos f];cases h0:decide (0 < Abs.dep (nd l') f) with
   | true=>exact Tr.tt rfl Tr.val
   | false =>
   refine Tr.ff rfl ?_;simp only [Bool.not_false,Bool.true_and];have key:=aX f.kids (fun k zs=>Tr (fun m=>fN m f l' (k:Int)) (aB.kT (nd l) v (zrp f.kids k) zs)) ?_ ?_ 0 (Nat.zero_le _)
   ·simpa [zrp] using key
   ·exact Tr.step (fun m=>by rw [fN,aP,cond_false,aB.kT]) Tr.val
   ·intro k x zs hk hx hd ihk;have hm:=aB.ws_mem (List.mem_of_getElem? hx);rw [zew hx] at ihk;refine Tr.step (fun m=>by rw [fN,ltN hk,cond_true,aK hx,Option.bind_some,cQ]) (Tr.bind (oU x) ?_);rw [aB.kT];cases hxd:aN x with
    | true =>
      rw [hxd] at ihk;refine Tr.tt rfl ?_;rw [cond_true];cases k with
      | zero=>exact Tr.tt rfl Tr.val
      | succ j =>
        have hj:f.kids[j]?=some f.kids[j]:=List.getElem?_eq_getElem (by omega);refine Tr.ff (decide_eq_false (by omega)) (Tr.eq (fun m=>by rw [bT (by omega),show ((j+1:Nat):Int)-1=(j:Int) by omega,aK hj,Option.bind_some]) (Tr.bind (oU _) ?_));rw [zew hj];cases aN f.kids[j] with
        | true=>exact Tr.tt rfl Tr.val
        | false=>exact Tr.ff rfl (by simpa using ihk)
    | false =>
      rw [hxd] at ihk;refine Tr.ff rfl ?_;rw [cond_false];have plain:Tr (fun m=>(nD m x l').bind fun v28=>bif (!v28) then some false else fN m f l' ((k+1:Nat):Int)) (x.isT (nd l) v&&aB.kT (nd l) v false zs):=by
       refine Tr.bind (ih x v l' (by omega) (by omega) hr) ?_;cases x.isT (nd l) v with
       | false=>exact Tr.tt rfl Tr.val
       | true=>exact Tr.ff rfl (by simpa using ihk)
      rcases zbS hd with ⟨rfl,hl⟩ | ⟨y,ys,rfl,hy,hl⟩
      ·exact Tr.ff (decide_eq_false (by omega)) (Tr.eq (fun m=>by rw [Option.bind_some]) plain)
      ·refine Tr.tt (decide_eq_true (by omega)) (Tr.eq (fun m=>by rw [aK hy,Option.bind_some]) (Tr.bind (oU y) ?_));rw [fD];cases aN y with
       | false=>exact Tr.ff rfl (Tr.eq (fun m=>by rw [Option.bind_some]) plain)
       | true =>
       refine Tr.tt rfl (Tr.eq (fun m=>by rw [Option.bind_some]) (Tr.bind (zqY hr _ x (Nat.le_refl _)) ?_));rw [cond_true];cases x.anyD (nd l) v with
       | false=>exact Tr.tt rfl Tr.val
       | true =>
       refine Tr.ff rfl (Tr.eq (fun m=>by rw [Option.bind_some]) (Tr.bind (zpI l' (by rw [hr.len];exact hll) hr.fit) (Tr.bind (ih x (v+1) _ (by omega) (by omega) hr.succ) ?_)));rw [Bool.true_and];cases x.isT (nd l) (v+1) with
       | false=>exact Tr.tt rfl Tr.val
       | true=>exact Tr.ff rfl (by simpa using ihk)
end Go.Abs
end
section
set_option linter.unusedVariables false
set_option linter.unusedSimpArgs false
namespace Go.Abs
noncomputable def yZ (f:aB) (l:List (aB × Int)):Bool:=f.valid&&(!aN f&&(f.dotsOk false&&f.rws l 0))
theorem zdT (f:aB) (l:List (aB × Int)) (hf:f.fit) (hb:f.w<=2 ^ 36):Tr (fun m=>lU m f (l.map (·.1)) (l.map (·.2))) (yZ f l):=by
 refine Tr.eq (fun m=>by unfold lU;rfl) (Tr.bind (mR f hf) ?_);unfold yZ;cases f.valid with
 | false=>exact Tr.ff rfl Tr.val
 | true =>
 refine Tr.tt rfl (Tr.bind (tT _ _) ?_);rw [show (decide (f.kind=1)&&decide (f.name=(⟨#[46,46,46]⟩:ByteArray)))=aN f from rfl];cases aN f with
 | true=>exact Tr.ff rfl Tr.val
 | false =>
 refine Tr.tt rfl (Tr.bind (zli false f hb) ?_);cases f.dotsOk false with
 | false=>exact Tr.ff rfl Tr.val
 | true=>exact Tr.tt rfl (Tr.bind (zqI l _ f 0 (Nat.le_refl _) (by omega)) Tr.val)
theorem zn5 (l:List Hit) (hl:l.length<=2 ^ 36):Tr (fun m=>sE m l) (l.map Hit.name,l.map Hit.depth):=by
 refine Tr.eq (fun m=>by unfold sE;rfl) ?_;have key:=aX l (fun k zs=>Tr (fun m=>hU m l ((l.take k).map Hit.name) ((l.take k).map Hit.depth) (k:Int)) (l.map Hit.name,l.map Hit.depth)) ?_ ?_ 0 (Nat.zero_le _)
 ·simpa using key
 ·exact Tr.step (fun m=>by rw [hU,aP,cond_false];simp) Tr.val
 ·intro k x zs hk hx hd ih;have e1:((l.take k).map Hit.name).length=k:=by simp;omega
  have e2:((l.take k).map Hit.depth).length=k:=by simp;omega
  rw [nN hx,List.map_append,List.map_append] at ih;refine Tr.step (fun m=>by rw [hU,ltN hk,cond_true,aK hx,Option.bind_some,cQ]) ?_;refine Tr.chk (decide_eq_true (by rw [e1];simp only [List.length_cons,List.length_nil];omega)) ?_;refine Tr.chk (decide_eq_true (by rw [e2];simp only [List.length_cons,List.length_nil];omega)) ?_;exact ih
theorem zcm (f:aB) (l:List Hit) (hf:f.fit) (hb:f.w<=2 ^ 36) (hl:Hit.fits l) (hlb:Hit.ws l<=2 ^ 36):Tr (fun m=>k6 m f l) (zgY l&&yZ f (nd l)):=by
 have hlen:=Hit.ws_len l;refine Tr.eq (fun m=>by unfold k6;rfl) (Tr.bind (zn5 l (by omega)) (Tr.bind (zgK l hl) ?_));cases zgY l with
 | false=>exact Tr.ff rfl Tr.val
 | true =>
   have:=zdT f (nd l) hf hb;rw [zoL,zoK] at this;exact Tr.tt rfl (Tr.bind this Tr.val)
end Go.Abs
end
section
set_option linter.unusedVariables false
set_option linter.unusedSimpArgs false
namespace Go.Abs
noncomputable def inF (l:List aB) (f:aB):Bool:=!vN (fun x=>!same x f) l
theorem zjI (l:List aB) (f:aB):Tr (fun m=>qJ m l f) (inF l f):=by
 refine Tr.eq (fun m=>by unfold qJ;rfl) (Tr.bind ?_ Tr.val);refine Tr.eq (fun m=>by unfold fB;rfl) (Tr.bind (v:=fnd (fun y=>same y f) l 0) ?_ (Tr.of fun m=>by rw [zgT];rfl));refine Tr.eq (fun m=>by unfold gC;rfl) ?_;exact mS (L:=fun m j=>bL m l f j) (E:=fun m y=>t6 m y f) (fun m j=>by rw [bL]) (fun y _=>Tr.eq (fun m=>by unfold t6;rfl) (Tr.bind (j8 _ _) Tr.val))
theorem zjH (l:List aB) (f:aB):Tr (fun m=>qH m l f) (inF l f):=by
 refine Tr.eq (fun m=>by unfold qH;rfl) ?_;have key:=aX l (fun k zs=>Tr (fun m=>lL m l f (k:Int)) (inF zs f)) ?_ ?_ 0 (Nat.zero_le _)
 ·simpa using key
 ·exact Tr.step (fun m=>by rw [lL,aP,cond_false];rfl) Tr.val
 ·intro k x zs hk hx hd ih;refine Tr.step (fun m=>by rw [lL,ltN hk,cond_true,aK hx,Option.bind_some,cQ]) (Tr.bind (qO _ _) ?_);unfold inF;rw [vN];cases same x f with
  | true=>exact Tr.tt rfl Tr.val
  | false=>exact Tr.ff rfl (by simpa [inF] using ih)
noncomputable def zrq:List aB->List aB->Bool
 | _,[]=>true
 | ps,x::xs=>zfD x&&(!decide (x.name=zg1)&&(!decide (x.name=s8)&&(!inF ps x&&zrq (ps++[x]) xs)))
noncomputable def ziw (l:List aB):Bool:=zrq [] l&&decide ((l.length:Int)<=9)
theorem zjj (l:List aB) (hf:aB.fits l):Tr (fun m=>lV m l) (ziw l):=by
 refine Tr.eq (fun m=>by unfold lV;rfl) ?_;have key:=aX l (fun k zs=>Tr (fun m=>eT m l (k:Int)) (zrq (l.take k) zs&&decide ((l.length:Int)<=9))) ?_ ?_ 0 (Nat.zero_le _)
 ·simpa [ziw] using key
 ·exact Tr.step (fun m=>by rw [eT,aP,cond_false,zrq,Bool.true_and]) Tr.val
 ·intro k x zs hk hx hd ih;have hm:=List.mem_of_getElem? hx;rw [nN hx] at ih;refine Tr.step (fun m=>by rw [eT,ltN hk,cond_true,aK hx,Option.bind_some,cQ]) (Tr.bind (t7 x (aB.fits_mem hf hm)) ?_);rw [zrq];cases zfD x with
  | false=>exact Tr.tt rfl Tr.val
  | true =>
  refine Tr.ff rfl ?_;cases decide (x.name=zg1) with
  | true=>exact Tr.tt rfl Tr.val
  | false =>
  refine Tr.ff rfl ?_;cases decide (x.name=s8) with
  | true=>exact Tr.tt rfl Tr.val
  | false =>
  refine Tr.ff rfl (Tr.eq (fun m=>by rw [zV (by omega),Option.bind_some]) (Tr.bind (zjI _ _) ?_));cases inF (l.take k) x with
  | true=>exact Tr.tt rfl Tr.val
  | false=>exact Tr.ff rfl (by simpa using ih)
theorem zi6 (l:List aB) (hf:aB.fits l) (hb:aB.ws l<=2 ^ 36):Tr (fun m=>lT m l) (ziw l):=by
 refine Tr.eq (fun m=>by unfold lT;rfl) ?_;have hlen:=aB.ws_len l;have e9:decide ((l.length:Int) < 10)=decide ((l.length:Int)<=9):=by
  rw [Bool.eq_iff_iff,decide_eq_true_iff,decide_eq_true_iff];omega
 have key:=aX l (fun k zs=>Tr (fun m=>eN m l (k:Int)) (zrq (l.take k) zs&&decide ((l.length:Int)<=9))) ?_ ?_ 0 (Nat.zero_le _)
 ·simpa [ziw] using key
 ·exact Tr.step (fun m=>by rw [eN,aP,cond_false,zrq,Bool.true_and,e9]) Tr.val
 ·intro k x zs hk hx hd ih;have hm:=List.mem_of_getElem? hx;have hmw:=aB.ws_mem hm;rw [nN hx] at ih;refine Tr.step (fun m=>by rw [eN,ltN hk,cond_true,e9]) ?_;by_cases h10:k < 10
  case neg =>
   refine Tr.ff (decide_eq_false (by omega)) (Tr.of fun m=>?_);rw [decide_eq_false (show ¬ (l.length:Int)<=9 by omega),Bool.and_false]
  refine Tr.tt (decide_eq_true (by omega)) (Tr.eq (fun m=>by rw [aK hx,Option.bind_some]) (Tr.bind (zsz x (aB.fits_mem hf hm) (by omega)) ?_));rw [zrq];cases zfD x with
  | false=>exact Tr.tt rfl Tr.val
  | true =>
  refine Tr.ff rfl (Tr.eq (fun m=>by rw [Option.bind_some]) ?_);cases decide (x.name=zg1) with
  | true=>exact Tr.tt rfl Tr.val
  | false =>
  refine Tr.ff rfl (Tr.eq (fun m=>by rw [Option.bind_some]) ?_);cases decide (x.name=s8) with
  | true=>exact Tr.tt rfl Tr.val
  | false =>
  refine Tr.ff rfl (Tr.eq (fun m=>by rw [zV (by omega),Option.bind_some,Option.bind_some,bT (by omega),cQ]) (Tr.bind (zjH _ _) ?_));cases inF (l.take k) x with
  | true=>exact Tr.tt rfl Tr.val
  | false=>exact Tr.ff rfl (by simpa using ih)
def qF:List aB->Nat
 | []=>0
 | x::xs=>(bif aN x then 1 else 0)+qF xs
mutual
def aB.shp:aB->Bool
 | .mk k nm n sc kids=>!aN (.mk k nm n sc kids)&&(aB.kP true kids&&decide (qF kids<=1))
def aB.kP:Bool->List aB->Bool
 | _,[]=>true
 | pd,x::xs=>(bif aN x then !pd else x.shp)&&aB.kP (aN x) xs
end
theorem aB.shp_eq (f:aB):f.shp=(!aN f&&(aB.kP true f.kids&&decide (qF f.kids<=1))):=by obtain ⟨a,b,c,d,e⟩:=f;rw [aB.shp];rfl
mutual
theorem aB.shp_dots:∀ f:aB,f.shp=(!aN f&&f.dotsOk true)
 | .mk k nm n sc kids=>by
   have:=aB.kP_dots kids true false;rw [aB.shp,aB.dotsOk,<- this];simp
theorem aB.kP_dots:∀ (zs:List aB) (pd sn:Bool),(aB.kP pd zs&&decide (qF zs+(bif sn then 1 else 0)<=1))=aB.kD true pd sn zs
 | [],pd,sn=>by rw [aB.kP,aB.kD,qF];cases sn<;>rfl
 | x::xs,pd,sn=>by
   have h1:=aB.shp_dots x;have h2:=aB.kP_dots xs (aN x) (sn||aN x);rw [aB.kP,aB.kD,qF,<- h2,h1];cases hx:aN x with
   | false=>simp [Bool.and_assoc]
   | true =>
     cases sn with
     | false=>simp [Bool.and_assoc,Nat.add_comm]
     | true=>simp
end
theorem zpJ:∀ (n:Nat) (f:aB),f.w<=n->f.w<=2 ^ 36->Tr (fun m=>nF m f) f.shp:=by
 intro n;induction n with
 | zero=>intro a h;have:=a.w_pos;omega
 | succ n ih =>
   intro f h hb;have hw:=f.w_kids;have hlen:=aB.ws_len f.kids;rw [aB.shp_eq];refine Tr.step (fun m=>by rw [nF]) (Tr.bind (oU f) ?_);cases aN f with
   | true=>exact Tr.tt rfl Tr.val
   | false =>
   refine Tr.ff rfl ?_;rw [Bool.not_false,Bool.true_and];have key:=aX f.kids (fun k zs=>∀ g:Nat,g<=k->Tr (fun m=>fX m f (g:Int) (k:Int)) (aB.kP (zrp f.kids k) zs&&decide (g+qF zs<=1))) ?_ ?_ 0 (Nat.zero_le _) 0 (Nat.le_refl _)
   ·simpa [zrp] using key
   ·intro g _;refine Tr.step (fun m=>by rw [fX,aP,cond_false]) (Tr.of fun m=>?_);rw [aB.kP,qF,Bool.true_and];congr 1;rw [Bool.eq_iff_iff,decide_eq_true_iff,decide_eq_true_iff];omega
   ·intro k x zs hk hx hd ihk g hg;have hm:=aB.ws_mem (List.mem_of_getElem? hx);rw [zew hx] at ihk;refine Tr.step (fun m=>by rw [fX,ltN hk,cond_true,aK hx,Option.bind_some,cQ]) (Tr.bind (oU x) ?_);rw [aB.kP,qF];cases hxd:aN x with
    | true =>
      rw [hxd] at ihk;refine Tr.tt rfl ?_;rw [cond_true];cases k with
      | zero=>exact Tr.tt rfl Tr.val
      | succ j =>
        have hj:f.kids[j]?=some f.kids[j]:=List.getElem?_eq_getElem (by omega);refine Tr.ff (decide_eq_false (by omega)) (Tr.eq (fun m=>by rw [bT (by omega),show ((j+1:Nat):Int)-1=(j:Int) by omega,aK hj,Option.bind_some]) (Tr.bind (oU _) ?_));rw [zew hj];cases aN f.kids[j] with
        | true=>exact Tr.tt rfl Tr.val
        | false =>
          have:=ihk (g+1) (by omega);rw [Nat.add_assoc g 1] at this;exact Tr.ff rfl (Tr.eq (fun m=>by rw [bT (by omega),cQ]) this)
    | false =>
      rw [hxd] at ihk;refine Tr.ff rfl (Tr.eq (fun m=>by rw [Option.bind_some]) (Tr.bind (ih x (by omega) (by omega)) ?_));rw [cond_false,cond_false,Nat.zero_add];cases x.shp with
      | false=>exact Tr.tt rfl Tr.val
      | true=>exact Tr.ff rfl (by simpa using ihk g (by omega))
end Go.Abs
end
section
set_option linter.unusedVariables false
set_option linter.unusedSimpArgs false
namespace Go.Abs
noncomputable def kF (lits:List aB) (f:aB):Bool:=decide (f.kind=1)&&(!decide (f.name=zg1)&&(!decide (f.name=s8)&&!inF lits f))
theorem zkC {α:Type} (a b:α) [DecidableEq α]:decide (a≠b)=!decide (a=b):=by
 by_cases h:a=b
 ·rw [decide_eq_true h,decide_eq_false (fun hh=>hh h)];rfl
 ·rw [decide_eq_false h,decide_eq_true h];rfl
theorem zq2 (f:aB) (lits:List aB):Tr (fun m=>vU m f lits) (kF lits f):=by
 refine Tr.eq (fun m=>by unfold vU;rw [zkC,zkC]) ?_;unfold kF;cases decide (f.kind=1) with
 | false=>exact Tr.ff rfl Tr.val
 | true =>
 refine Tr.tt rfl ?_;cases decide (f.name=zg1) with
 | true=>exact Tr.ff rfl Tr.val
 | false =>
 refine Tr.tt rfl ?_;cases decide (f.name=s8) with
 | true=>exact Tr.ff rfl Tr.val
 | false=>exact Tr.tt rfl (Tr.bind (zjI _ _) Tr.val)
theorem zm8 (f:aB) (lits:List aB):Tr (fun m=>tM m f lits) (kF lits f):=by
 refine Tr.eq (fun m=>by unfold tM;rw [zkC,zkC]) ?_;unfold kF;cases decide (f.kind=1) with
 | false=>exact Tr.ff rfl Tr.val
 | true =>
 refine Tr.tt rfl ?_;cases decide (f.name=zg1) with
 | true=>exact Tr.ff rfl Tr.val
 | false =>
 refine Tr.tt rfl ?_;cases decide (f.name=s8) with
 | true=>exact Tr.ff rfl Tr.val
 | false=>exact Tr.tt rfl (Tr.bind (zjH _ _) Tr.val)
mutual
noncomputable def aB.vd (lits:List aB):Nat->aB->List (aB × Int)
 | v,.mk k nm n sc kids=>(bif kF lits (.mk k nm n sc kids) then [((aB.mk k nm n sc kids),(v:Int))] else [])++aB.kV lits v kids
noncomputable def aB.kV (lits:List aB):Nat->List aB->List (aB × Int)
 | _,[]=>[]
 | v,x::xs=>(bif fD xs then x.vd lits (v+1) else x.vd lits v)++aB.kV lits v xs
end
mutual
noncomputable def aB.vs (lits:List aB):aB->List aB
 | .mk k nm n sc kids=>(bif kF lits (.mk k nm n sc kids) then [(aB.mk k nm n sc kids)] else [])++aB.kVs lits kids
noncomputable def aB.kVs (lits:List aB):List aB->List aB
 | []=>[]
 | x::xs=>x.vs lits++aB.kVs lits xs
end
theorem aB.vd_eq (lits:List aB) (v:Nat) (f:aB):f.vd lits v=(bif kF lits f then [(f,(v:Int))] else [])++aB.kV lits v f.kids:=by obtain ⟨a,b,c,d,e⟩:=f;rw [aB.vd];rfl
theorem aB.vs_eq (lits:List aB) (f:aB):f.vs lits=(bif kF lits f then [f] else [])++aB.kVs lits f.kids:=by obtain ⟨a,b,c,d,e⟩:=f;rw [aB.vs];rfl
mutual
theorem aB.vd_fst (lits:List aB):∀ (f:aB) (v:Nat),(f.vd lits v).map (·.1)=f.vs lits
 | .mk k nm n sc kids,v=>by
   have:=aB.kV_fst lits kids v;rw [aB.vd,aB.vs,List.map_append,this];cases kF lits (.mk k nm n sc kids)<;>rfl
theorem aB.kV_fst (lits:List aB):∀ (l:List aB) (v:Nat),(aB.kV lits v l).map (·.1)=aB.kVs lits l
 | [],v=>by rw [aB.kV,aB.kVs];rfl
 | x::xs,v=>by
   have h1:=aB.vd_fst lits x v;have h2:=aB.vd_fst lits x (v+1);have h3:=aB.kV_fst lits xs v;rw [aB.kV,aB.kVs,List.map_append,h3];cases fD xs
   ·rw [cond_false,h1]
   ·rw [cond_true,h2]
end
mutual
theorem aB.vd_len (lits:List aB):∀ (f:aB) (v:Nat),(f.vd lits v).length<=f.w
 | .mk k nm n sc kids,v=>by
   have:=aB.kV_len lits kids v;rw [aB.vd,aB.w,List.length_append];cases kF lits (.mk k nm n sc kids)<;>simp<;>omega
theorem aB.kV_len (lits:List aB):∀ (l:List aB) (v:Nat),(aB.kV lits v l).length<=aB.ws l
 | [],v=>by rw [aB.kV];simp
 | x::xs,v=>by
   have h1:=aB.vd_len lits x v;have h2:=aB.vd_len lits x (v+1);have h3:=aB.kV_len lits xs v;rw [aB.kV,aB.ws,List.length_append];cases fD xs
   ·rw [cond_false];omega
   ·rw [cond_true];omega
end
theorem zqG {α:Type} (l:List α) (z x:α):(l++[z]).set (l.length:Int).toNat x=l++[x]:=by
 rw [Int.toNat_natCast,List.set_append_right _ _ (Nat.le_refl _),Nat.sub_self];rfl
theorem zj2 (lits:List aB):∀ (n:Nat) (f:aB) (v:Nat) (a:List aB) (b:List Int),f.w<=n->f.w+v<=2 ^ 37->a.length+f.w<=2 ^ 37->b.length+f.w<=2 ^ 37 ->
  Tr (fun m=>dU m f lits (v:Int) a b) (a++(f.vd lits v).map (·.1),b++(f.vd lits v).map (·.2)):=by
 intro n;induction n with
 | zero=>intro a v _ _ h;have:=a.w_pos;omega
 | succ n ih =>
   intro f v a b h hb ha hbb;have hw:=f.w_kids;have hlen:=aB.ws_len f.kids;have loop:∀ k,k<=f.kids.length->∀ (a:List aB) (b:List Int),a.length+aB.ws (f.kids.drop k)<=2 ^ 37->b.length+aB.ws (f.kids.drop k)<=2 ^ 37->Tr (fun m=>aU m f lits (v:Int) (k:Int) a b) (a++(aB.kV lits v (f.kids.drop k)).map (·.1),b++(aB.kV lits v (f.kids.drop k)).map (·.2)):=by
    refine aX f.kids (fun k zs=>∀ (a:List aB) (b:List Int),a.length+aB.ws zs<=2 ^ 37->b.length+aB.ws zs<=2 ^ 37->Tr (fun m=>aU m f lits (v:Int) (k:Int) a b) (a++(aB.kV lits v zs).map (·.1),b++(aB.kV lits v zs).map (·.2))) ?_ ?_
    ·intro a b _ _;exact Tr.step (fun m=>by rw [aU,aP,cond_false,aB.kV];simp) Tr.val
    ·intro k x zs hk hx hd ihk a b ha B2;have hm:=aB.ws_mem (List.mem_of_getElem? hx);rw [aB.ws] at ha B2;have l0:=aB.vd_len lits x v;have l1:=aB.vd_len lits x (v+1);refine Tr.step (fun m=>by rw [aU,ltN hk,cond_true,aK hx,Option.bind_some,cQ]) ?_;have plain:Tr (fun m=>(dU m x lits (v:Int) a b).bind fun v19=>aU m f lits (v:Int) ((k+1:Nat):Int) v19.1 v19.2) (a++(x.vd lits v++aB.kV lits v zs).map (·.1),b++(x.vd lits v++aB.kV lits v zs).map (·.2)):=by
      refine Tr.bind (ih x v a b (by omega) (by omega) (by omega) (by omega)) ?_;have:=ihk (a++(x.vd lits v).map (·.1)) (b++(x.vd lits v).map (·.2)) (by simp;omega) (by simp;omega);simpa only [List.map_append,List.append_assoc] using this
     rcases zbS hd with ⟨rfl,hl⟩ | ⟨y,ys,rfl,hy,hl⟩
     ·rw [aB.kV,fD,cond_false];exact Tr.ff (decide_eq_false (by omega)) plain
     ·rw [aB.kV,fD];refine Tr.tt (decide_eq_true (by omega)) (Tr.eq (fun m=>by rw [aK hy,Option.bind_some]) (Tr.bind (tT _ _) ?_));rw [show (decide (y.kind=1)&&decide (y.name=(⟨#[46,46,46]⟩:ByteArray)))=aN y from rfl];cases aN y with
      | false=>exact Tr.ff rfl plain
      | true =>
      refine Tr.tt rfl (Tr.eq (fun m=>by rw [bT (by omega),cQ]) (Tr.bind (ih x (v+1) a b (by omega) (by omega) (by omega) (by omega)) ?_));rw [cond_true];have:=ihk (a++(x.vd lits (v+1)).map (·.1)) (b++(x.vd lits (v+1)).map (·.2)) (by simp;omega) (by simp;omega);simpa only [List.map_append,List.append_assoc] using this
   have l0:=fun a b h1 h2=>loop 0 (Nat.zero_le _) a b (by rw [List.drop_zero];exact h1) (by rw [List.drop_zero];exact h2)
   simp only [List.drop_zero] at l0;rw [aB.vd_eq];refine Tr.step (fun m=>by rw [dU]) (Tr.bind (zq2 _ _) ?_);cases kF lits f with
   | false=>exact Tr.ff rfl (l0 a b (by omega) (by omega))
   | true =>
     refine Tr.tt rfl (Tr.chk (by simp;omega) ?_);refine Tr.eq (fun m=>by rw [aK (l:=a++[mF]) (k:=a.length) (x:=mF) (by simp),Option.bind_some,zqG]) (Tr.chk (by simp;omega) ?_);have:=l0 (a++[f]) (b++[(v:Int)]) (by simp;omega) (by simp;omega);simpa using this
theorem zht (f:aB) (lits:List aB) (hb:f.w<=2 ^ 36):Tr (fun m=>oJ m f lits) ((f.vd lits 0).map (·.1),(f.vd lits 0).map (·.2)):=by
 refine Tr.eq (fun m=>by unfold oJ;rfl) (Tr.bind (zj2 lits _ f 0 [] [] (Nat.le_refl _) (by omega) (by simp;omega) (by simp;omega)) ?_);simpa using Tr.val
theorem zjV (lits:List aB):∀ (n:Nat) (f:aB) (a:List aB),f.w<=n->a.length+f.w<=2 ^ 37->Tr (fun m=>jK m a f lits) (a++f.vs lits)/\(f.vs lits).length<=f.w:=by
 intro n;induction n with
 | zero=>intro a _ h;have:=a.w_pos;omega
 | succ n ih =>
   intro f a h ha;have hw:=f.w_kids;have hlenv:(f.vs lits).length<=f.w:=by have:=aB.vd_len lits f 0;rw [<- aB.vd_fst lits f 0,List.length_map];exact this
   refine ⟨?_,hlenv⟩;have loop:∀ k,k<=f.kids.length->∀ (a:List aB),a.length+aB.ws (f.kids.drop k)<=2 ^ 37->Tr (fun m=>cT m f lits a (k:Int)) (a++aB.kVs lits (f.kids.drop k)):=by
    refine aX f.kids (fun k zs=>∀ (a:List aB),a.length+aB.ws zs<=2 ^ 37->Tr (fun m=>cT m f lits a (k:Int)) (a++aB.kVs lits zs)) ?_ ?_
    ·intro a _;exact Tr.step (fun m=>by rw [cT,aP,cond_false,aB.kVs];simp) Tr.val
    ·intro k x zs hk hx hd ihk a ha;have hm:=aB.ws_mem (List.mem_of_getElem? hx);rw [aB.ws] at ha;obtain ⟨i1,i2⟩:=ih x a (by omega) (by omega);refine Tr.step (fun m=>by rw [cT,ltN hk,cond_true,aK hx,Option.bind_some,cQ]) (Tr.bind i1 ?_);rw [aB.kVs,<- List.append_assoc];exact ihk _ (by simp;omega)
   have l0:=fun a h1=>loop 0 (Nat.zero_le _) a (by rw [List.drop_zero];exact h1)
   simp only [List.drop_zero] at l0;rw [aB.vs_eq];refine Tr.step (fun m=>by rw [jK]) (Tr.bind (zm8 _ _) ?_);cases kF lits f with
   | false=>exact Tr.ff rfl (l0 a (by omega))
   | true =>
     refine Tr.tt rfl (Tr.chk (by simp;omega) ?_);have:=l0 (a++[f]) (by simp;omega);simpa using this
theorem zeL (lits:List aB):∀ (n:Nat) (f:aB) (v:Nat) (b:List Int),f.w<=n->f.w+v<=2 ^ 37->b.length+f.w<=2 ^ 37->Tr (fun m=>dM m b f lits (v:Int)) (b++(f.vd lits v).map (·.2)):=by
 intro n;induction n with
 | zero=>intro a v _ h;have:=a.w_pos;omega
 | succ n ih =>
   intro f v b h hb hbb;have hw:=f.w_kids;have hlen:=aB.ws_len f.kids;have loop:∀ k,k<=f.kids.length->∀ (b:List Int),b.length+aB.ws (f.kids.drop k)<=2 ^ 37->Tr (fun m=>bH m f lits (v:Int) b (k:Int)) (b++(aB.kV lits v (f.kids.drop k)).map (·.2)):=by
    refine aX f.kids (fun k zs=>∀ (b:List Int),b.length+aB.ws zs<=2 ^ 37->Tr (fun m=>bH m f lits (v:Int) b (k:Int)) (b++(aB.kV lits v zs).map (·.2))) ?_ ?_
    ·intro b _;exact Tr.step (fun m=>by rw [bH,aP,cond_false,aB.kV];simp) Tr.val
    ·intro k x zs hk hx hd ihk b B2;have hm:=aB.ws_mem (List.mem_of_getElem? hx);rw [aB.ws] at B2;have l0:=aB.vd_len lits x v;have l1:=aB.vd_len lits x (v+1);refine Tr.step (fun m=>by rw [bH,ltN hk,cond_true,aK hx,cQ]) ?_;have plain:Tr (fun m=>(dM m b x lits (v:Int)).bind fun v18=>bH m f lits (v:Int) v18 ((k+1:Nat):Int)) (b++(x.vd lits v++aB.kV lits v zs).map (·.2)):=by
      refine Tr.bind (ih x v b (by omega) (by omega) (by omega)) ?_;have:=ihk (b++(x.vd lits v).map (·.2)) (by simp;omega);simpa only [List.map_append,List.append_assoc] using this
     rcases zbS hd with ⟨rfl,hl⟩ | ⟨y,ys,rfl,hy,hl⟩
     ·rw [aB.kV,fD,cond_false];exact Tr.ff (decide_eq_false (by omega)) (Tr.eq (fun m=>by rw [Option.bind_some]) plain)
     ·rw [aB.kV,fD];refine Tr.tt (decide_eq_true (by omega)) (Tr.eq (fun m=>by rw [aK hy,Option.bind_some]) (Tr.bind (oU _) ?_));cases aN y with
      | false=>exact Tr.ff rfl (Tr.eq (fun m=>by rw [Option.bind_some]) plain)
      | true =>
      refine Tr.tt rfl (Tr.eq (fun m=>by rw [Option.bind_some,bT (by omega),cQ]) (Tr.bind (ih x (v+1) b (by omega) (by omega) (by omega)) ?_));rw [cond_true];have:=ihk (b++(x.vd lits (v+1)).map (·.2)) (by simp;omega);simpa only [List.map_append,List.append_assoc] using this
   have l0:=fun b h1=>loop 0 (Nat.zero_le _) b (by rw [List.drop_zero];exact h1)
   simp only [List.drop_zero] at l0;rw [aB.vd_eq];refine Tr.step (fun m=>by rw [dM]) (Tr.bind (zm8 _ _) ?_);cases kF lits f with
   | false=>exact Tr.ff rfl (l0 b (by omega))
   | true =>
     refine Tr.tt rfl (Tr.chk (by simp;omega) ?_);have:=l0 (b++[(v:Int)]) (by simp;omega);simpa using this
end Go.Abs
end
section
set_option linter.unusedVariables false
set_option linter.unusedSimpArgs false
namespace Go.Abs
noncomputable def zev:List aB->List aB->Bool
 | _,[]=>true
 | ps,x::xs=>!inF ps x&&zev (ps++[x]) xs
def zlO (l:List Int):Bool:=vN (fun d=>!decide (3 < d)) l
noncomputable def zC (f:aB) (lits:List aB):Bool:=f.valid&&(ziw lits&&(f.shp&&((zev [] (f.vs lits)&&zlO ((f.vd lits 0).map (·.2)))&&decide (((f.vs lits).length:Int)<=20))))
theorem znP (l:List (aB × Int)) (hl:l.length<=2 ^ 37):Tr (fun m=>cI m (l.map (·.1),l.map (·.2)) 0 (l.map (·.1))) ((zev [] (l.map (·.1))&&zlO (l.map (·.2)))&&decide (((l.map (·.1)).length:Int)<=20)):=by
 have key:=aX l (fun k zs=>Tr (fun m=>cI m (l.map (·.1),l.map (·.2)) (k:Int) (l.map (·.1))) ((zev ((l.map (·.1)).take k) (zs.map (·.1))&&zlO (zs.map (·.2)))&&decide (((l.map (·.1)).length:Int)<=20))) ?_ ?_ 0 (Nat.zero_le _)
 ·simpa using key
 ·exact Tr.step (fun m=>by rw [cI,List.length_map,aP,cond_false];simp [zev,zlO,vN]) Tr.val
 ·intro k x zs hk hx hd ih;have h1:(l.map (·.1))[k]?=some x.1:=by rw [List.getElem?_map,hx];rfl
  have h2:(l.map (·.2))[k]?=some x.2:=by rw [List.getElem?_map,hx];rfl
  have hk1:k < (l.map (·.1)).length:=by simpa using hk
  rw [nN h1] at ih;refine Tr.step (fun m=>by rw [cI,ltN hk1,cond_true,aK h1,Option.bind_some,zV (by omega),Option.bind_some]) (Tr.bind (zjI _ _) ?_);rw [List.map_cons,List.map_cons,zev,zlO,vN];cases inF ((l.map (·.1)).take k) x.1 with
  | true=>exact Tr.tt rfl Tr.val
  | false =>
  refine Tr.ff rfl (Tr.eq (fun m=>by rw [aK h2,Option.bind_some,bT (by omega),cQ]) ?_);cases decide (3 < x.2) with
  | true =>
    rw [Bool.not_true,Bool.false_and,Bool.and_false];exact Tr.tt rfl Tr.val
  | false=>exact Tr.ff rfl (by simpa [zlO] using ih)
theorem zdm (f:aB) (lits:List aB) (hf:f.fit) (hb:f.w<=2 ^ 36) (hl:aB.fits lits):Tr (fun m=>mA m f lits) (zC f lits):=by
 refine Tr.eq (fun m=>by unfold mA;rfl) (Tr.bind (mR f hf) ?_);unfold zC;cases f.valid with
 | false=>exact Tr.tt rfl Tr.val
 | true =>
 refine Tr.ff rfl (Tr.bind (zjj lits hl) ?_);cases ziw lits with
 | false=>exact Tr.tt rfl Tr.val
 | true =>
 refine Tr.ff rfl (Tr.bind (tT _ _) ?_);rw [show (decide (f.kind=1)&&decide (f.name=(⟨#[46,46,46]⟩:ByteArray)))=aN f from rfl,aB.shp_dots];cases aN f with
 | true=>exact Tr.tt rfl Tr.val
 | false =>
 refine Tr.ff rfl (Tr.bind (zli true f hb) ?_);cases f.dotsOk true with
 | false=>exact Tr.tt rfl Tr.val
 | true =>
 refine Tr.ff rfl (Tr.bind (zht f lits hb) ?_);have:=znP (f.vd lits 0) (by have:=aB.vd_len lits f 0;omega);rw [<- aB.vd_fst lits f 0];exact this
theorem zsy (f:aB) (lits:List aB) (hf:f.fit) (hb:f.w<=2 ^ 36) (hl:aB.fits lits) (hlb:aB.ws lits<=2 ^ 36):Tr (fun m=>xG m f lits) (zC f lits):=by
 refine Tr.eq (fun m=>by unfold xG;rfl) (Tr.bind (oX f hf hb) ?_);unfold zC;cases f.valid with
 | false=>exact Tr.tt rfl Tr.val
 | true =>
 refine Tr.ff rfl (Tr.bind (zi6 lits hl hlb) ?_);cases ziw lits with
 | false=>exact Tr.tt rfl Tr.val
 | true =>
 refine Tr.ff rfl (Tr.bind (zpJ _ f (Nat.le_refl _) hb) ?_);cases f.shp with
 | false=>exact Tr.tt rfl Tr.val
 | true =>
 refine Tr.ff rfl (Tr.bind (zjV lits _ f [] (Nat.le_refl _) (by simp;omega)).1 ?_);rw [List.nil_append];have key:=aX (f.vs lits) (fun k zs=>Tr (fun m=>lK m f lits (k:Int) (f.vs lits)) ((zev ((f.vs lits).take k) zs&&zlO ((f.vd lits 0).map (·.2)))&&decide (((f.vs lits).length:Int)<=20))) ?_ ?_ 0 (Nat.zero_le _)
 ·simpa using key
 ·refine Tr.step (fun m=>by rw [lK,aP,cond_false]) ?_;refine Tr.bind (zeL lits _ f 0 [] (Nat.le_refl _) (by omega) (by simp;omega)) ?_;rw [List.nil_append,zev,Bool.true_and];have inner:=aX ((f.vd lits 0).map (·.2)) (fun j ws=>Tr (fun m=>lJ m (f.vs lits) ((f.vd lits 0).map (·.2)) (j:Int)) (zlO ws&&decide (((f.vs lits).length:Int)<=20))) ?_ ?_ 0 (Nat.zero_le _)
  ·simpa using inner
  ·exact Tr.step (fun m=>by rw [lJ,aP,cond_false];simp [zlO,vN]) Tr.val
  ·intro j y ws hj hy hdj ihj;refine Tr.step (fun m=>by rw [lJ,ltN hj,cond_true,aK hy,Option.bind_some,cQ]) ?_;rw [zlO,vN];cases decide (3 < y) with
   | true=>exact Tr.tt rfl Tr.val
   | false=>exact Tr.ff rfl (by simpa [zlO] using ihj)
 ·intro k x zs hk hx hd ih;rw [nN hx] at ih;refine Tr.step (fun m=>by rw [lK,ltN hk,cond_true,zV (by omega),Option.bind_some,aK hx,Option.bind_some,cQ]) (Tr.bind (zjH _ _) ?_);rw [zev];cases inF ((f.vs lits).take k) x with
  | true=>exact Tr.tt rfl Tr.val
  | false=>exact Tr.ff rfl (by simpa using ih)
def tQ (p:aB × Int):Hit:=bif decide (p.2=0) then Hit.mk p.1 p.2 p.1 ([]:List Hit) else Hit.mk p.1 p.2 mF ([]:List Hit)
theorem zm5:∀ l:List (aB × Int),nd (l.map tQ)=l
 | []=>rfl
 | p::ps=>by
   have:=zm5 ps;simp only [nd,List.map_cons,List.map_map] at this ⊢;rw [this];congr 1;unfold tQ;cases decide (p.2=0)<;>rfl
theorem zn0 (f:aB) (lits:List aB) (hb:f.w<=2 ^ 36):Tr (fun m=>r6 m f lits) ((f.vd lits 0).map tQ):=by
 refine Tr.eq (fun m=>by unfold r6;rfl) (Tr.bind (zjV lits _ f [] (Nat.le_refl _) (by simp;omega)).1 (Tr.bind (zeL lits _ f 0 [] (Nat.le_refl _) (by omega) (by simp;omega)) ?_));rw [List.nil_append,List.nil_append,<- aB.vd_fst lits f 0];have hlen:=aB.vd_len lits f 0;generalize f.vd lits 0=l at hlen;have key:=aX l (fun k zs=>Tr (fun m=>fV m (l.map (·.1)) (l.map (·.2)) ((l.take k).map tQ) (k:Int)) (l.map tQ)) ?_ ?_ 0 (Nat.zero_le _)
 ·simpa using key
 ·exact Tr.step (fun m=>by rw [fV,List.length_map,aP,cond_false];simp) Tr.val
 ·intro k x zs hk hx hd ih;have h1:(l.map (·.1))[k]?=some x.1:=by rw [List.getElem?_map,hx];rfl
  have h2:(l.map (·.2))[k]?=some x.2:=by rw [List.getElem?_map,hx];rfl
  have hk1:k < (l.map (·.1)).length:=by simpa using hk
  have hlk:((l.take k).map tQ).length=k:=by simp;omega
  rw [nN hx,List.map_append] at ih;refine Tr.step (fun m=>by rw [fV,ltN hk1,cond_true,aK h1,Option.bind_some,aK h2,Option.bind_some,cQ]) ?_;cases h0:decide (x.2=0) with
  | true =>
    rw [show List.map tQ [x]=[Hit.mk x.1 x.2 x.1 []] by simp [tQ,h0]] at ih;exact Tr.tt rfl (Tr.eq (fun m=>by rw [Option.bind_some]) (Tr.chk (decide_eq_true (by rw [hlk];simp only [List.length_cons,List.length_nil];omega)) ih))
  | false =>
    rw [show List.map tQ [x]=[Hit.mk x.1 x.2 mF []] by simp [tQ,h0]] at ih;exact Tr.ff rfl (Tr.chk (decide_eq_true (by rw [hlk];simp only [List.length_cons,List.length_nil];omega)) ih)
noncomputable def tO (r:aI) (lits:List aB):Bool:=zC r.pattern lits&&(decide (r.pattern.kind=3)&&(decide (0 < (r.pattern.kids.length:Int))&&yZ r.template (r.pattern.vd lits 0)))
theorem zgJ (r:aI) (lits:List aB) (h1:r.pattern.fit) (b1:r.pattern.w<=2 ^ 36) (h2:r.template.fit) (b2:r.template.w<=2 ^ 36) (hl:aB.fits lits):Tr (fun m=>pF m r lits) (tO r lits):=by
 refine Tr.eq (fun m=>by unfold pF;rw [zkC]) (Tr.bind (zdm _ _ h1 b1 hl) ?_);unfold tO;cases zC r.pattern lits with
 | false=>exact Tr.tt rfl Tr.val
 | true =>
 refine Tr.ff rfl ?_;cases decide (r.pattern.kind=3) with
 | false=>exact Tr.tt rfl Tr.val
 | true =>
 refine Tr.ff rfl ?_;by_cases h0:(r.pattern.kids.length:Int)=0
 ·rw [decide_eq_false (show ¬ 0 < (r.pattern.kids.length:Int) by omega)];exact Tr.tt (decide_eq_true h0) Tr.val
 ·rw [decide_eq_true (show 0 < (r.pattern.kids.length:Int) by omega)];refine Tr.ff (decide_eq_false h0) (Tr.bind (zht _ _ b1) (Tr.bind (zdT r.template _ h2 b2) ?_));exact Tr.val
mutual
theorem aB.vd_nn (lits:List aB):∀ (f:aB) (v:Nat),∀ x∈f.vd lits v,0<=x.2
 | .mk k nm n sc kids,v,x,hx=>by
   have:=aB.kV_nn lits kids v x;rw [aB.vd,List.mem_append] at hx;rcases hx with hx | hx
   ·cases h:kF lits (.mk k nm n sc kids) with
    | true=>rw [h,cond_true,List.mem_singleton] at hx;subst hx;exact Int.natCast_nonneg v
    | false=>rw [h,cond_false] at hx;cases hx
   ·exact this hx
theorem aB.kV_nn (lits:List aB):∀ (l:List aB) (v:Nat),∀ x∈aB.kV lits v l,0<=x.2
 | [],v,x,hx=>by rw [aB.kV] at hx;cases hx
 | y::ys,v,x,hx=>by
   have h1:=aB.vd_nn lits y v x;have h2:=aB.vd_nn lits y (v+1) x;have h3:=aB.kV_nn lits ys v x;rw [aB.kV,List.mem_append] at hx;rcases hx with hx | hx
   ·cases h:fD ys with
    | true=>rw [h,cond_true] at hx;exact h2 hx
    | false=>rw [h,cond_false] at hx;exact h1 hx
   ·exact h3 hx
end
theorem zs5 (f:aB) (lits:List aB) (h:zlO ((f.vd lits 0).map (·.2))=true):∀ x∈(f.vd lits 0).map tQ,-9223372036854775808<=x.depth/\x.depth<=9223372036854775807:=fun x hx=>by
 obtain ⟨p,hp,rfl⟩:=List.mem_map.1 hx;have h1:=aB.vd_nn lits f 0 p hp;have h2:=(oF.1 h) p.2 (List.mem_map_of_mem hp);have h3:¬ 3 < p.2:=by simpa using h2
 have e:(tQ p).depth=p.2:=by unfold tQ;cases decide (p.2=0)<;>rfl
 rw [e];omega
theorem zfP (r:aI) (lits:List aB) (h1:r.pattern.fit) (b1:r.pattern.w<=2 ^ 36) (h2:r.template.fit) (b2:r.template.w<=2 ^ 36) (hl:aB.fits lits) (hlb:aB.ws lits<=2 ^ 36):Tr (fun m=>wF m r lits) (tO r lits):=by
 refine Tr.eq (fun m=>by unfold wF lD;rfl) (Tr.bind (v:=tO r lits) ?_ Tr.val);refine Tr.bind (zsy _ _ h1 b1 hl hlb) ?_;unfold tO;cases hp:zC r.pattern lits with
 | false=>exact Tr.ff rfl Tr.val
 | true =>
 refine Tr.tt rfl ?_;cases decide (r.pattern.kind=3) with
 | false=>exact Tr.ff rfl Tr.val
 | true =>
 refine Tr.tt rfl ?_;cases decide (0 < (r.pattern.kids.length:Int)) with
 | false=>exact Tr.ff rfl Tr.val
 | true =>
 refine Tr.tt rfl (Tr.bind (oX _ h2 b2) ?_);unfold yZ;cases r.template.valid with
 | false=>exact Tr.ff rfl Tr.val
 | true =>
 refine Tr.tt rfl (Tr.bind (zn0 _ _ b1) ?_);have hds:zlO ((r.pattern.vd lits 0).map (·.2))=true:=by
  unfold zC at hp;simp only [Bool.and_eq_true] at hp;exact hp.2.2.2.1.2
 have hlen:=aB.vd_len lits r.pattern 0;have:=ztn ((r.pattern.vd lits 0).map tQ) (by rw [List.length_map];omega) _ r.template 0 _ (Nat.le_refl _) b2 (zqa.zero (zs5 _ _ hds));rw [zm5,aB.isT_two] at this;refine Tr.bind this ?_;exact Tr.val
theorem znF (l:List aB) (v:Int) (hl:l.length<=9223372036854775807) (hf:aB.fits l) (h0:0<=v) (h1:v<=2 ^ 40):TQ (fun m=>lN m l v) (zkn v (aB.wts l)):=by
 refine TQ.step (fun m=>by rw [lN,bT (by omega)]) ?_;refine TQ.cond (fun _=>TQ.val (.inl rfl)) (fun h=>?_);replace h:0<=v-(l.length:Int):=by simpa using h
 have key:=aX l (fun k zs=>∀ g:Int,0<=g->g<=2 ^ 40->TQ (fun m=>dN m l g (k:Int)) (fun r=>r=-1∨(0<=r/\r=g-aB.wts zs+zs.length))) ?_ ?_ 0 (Nat.zero_le _) _ h (by omega)
 ·refine TQ.mono (by simpa using key) (fun r hr=>?_);rcases hr with hr | ⟨hr,he⟩
  ·exact .inl hr
  ·exact .inr ⟨hr,by rw [he];omega⟩
 ·intro g hg _;exact TQ.step (fun m=>by rw [dN,aP,cond_false]) (TQ.val (.inr ⟨hg,by simp [aB.wts]⟩))
 ·intro k x zs hk hx hd ihk g hg hg1;refine TQ.step (fun m=>by rw [dN,ltN hk,cond_true,aK hx,Option.bind_some,cQ]) ?_;have hm:=List.mem_of_getElem? hx;refine TQ.bind (zdN x g (aB.fits_mem hf hm) hg hg1) (fun r hr=>?_);rcases hr with rfl | ⟨hr,rfl⟩
  ·exact TQ.cond (fun _=>TQ.val (.inl rfl)) (fun h=>absurd h (by decide))
  refine TQ.cond (fun h=>absurd h (by rw [geZ hr];decide)) (fun _=>?_);refine TQ.mono (ihk _ hr (by omega)) (fun r hr=>?_);rcases hr with hr | ⟨hr,he⟩
  ·exact .inl hr
  ·exact .inr ⟨hr,by rw [he,aB.wts,List.length_cons];omega⟩
theorem znC (l:List aB) (hb:aB.ws l<=2 ^ 36):Tr (fun m=>dT m l) l:=by
 have hl:=aB.ws_len l;refine Tr.step (fun m=>by rw [dT]) (Tr.chk (by simp;omega) ?_);have:=zbp (xs:=l) (z:=mF) (f:=fun x=>x) (L:=fun m k acc=>cW m l k acc) (E:=fun m a=>cH m a) (fun m k acc=>by rw [cW]) (fun a ha=>zdM a (by have:=aB.ws_mem ha;omega));simpa using this
theorem zod (a b:List aB):Tr (fun m=>jM m a b) (same a b):=by
 refine Tr.step (fun m=>by rw [jM]) ?_;by_cases hl:a.length=b.length
 ·exact Tr.ff (zp9 hl) (zhk hl (L:=fun m k=>fY m a b k) (E:=fun m x y=>dG m x y) (fun m k=>by rw [fY]) (fun x _ y _=>zdS x y))
 ·rw [zW hl];exact Tr.tt (zrV hl) Tr.val
end Go.Abs
end
end
