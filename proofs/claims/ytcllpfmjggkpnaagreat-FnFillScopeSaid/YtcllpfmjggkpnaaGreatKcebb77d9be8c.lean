/- A part of the proof: what the functions that the law calls answer, as pure values. -/
import Derived.Maps.RangeRun
import Derived.Test.YtcllpfmjggkpnaaGreatKbbbd5a8967a9
set_option linter.unusedSimpArgs false
set_option linter.unusedVariables false
section
set_option linter.unusedSimpArgs false
set_option linter.unusedVariables false
namespace Go.Abs
open Go.MapKept
theorem zd3.stamped {es:Array MapEntry} {c:Nat} {f:Int→Option Int} (h:zd3 es.toList c f):Stamped es c:=⟨fun x hx=>(h.1 x hx).1,h.2.2.1,h.2.1⟩
theorem zd3.of {es:Array MapEntry} {c:Nat} {f:Int→Option Int} (hs:Stamped es c) (h:∀ x∈es.toList,∃ k v,x.key=.int .i64 k∧x.val=.int .i64 v∧f k=some v) (h2:∀ k v,f k=some v→∃ e∈es.toList,e.key=.int .i64 k∧e.val=.int .i64 v):zd3 es.toList c f :=
 ⟨fun x hx=>⟨hs.1 x hx,h x hx⟩,hs.2.2,hs.2.1,h2⟩
theorem zd3.none {es:List MapEntry} {c:Nat} {f:Int→Option Int} (h:zd3 es c f) {k:Int} (hk:∀ x∈es,x.key≠.int .i64 k):f k=none:=by
 cases hf:f k with
 | none=>rfl
 | some v =>
   obtain ⟨e,he,h1,_⟩:=h.2.2.2 k v hf
   exact absurd h1 (hk e he)
theorem zd3.at {es:List MapEntry} {c:Nat} {f:Int→Option Int} (h:zd3 es c f) {x:MapEntry} (hx:x∈es) {k:Int} (hk:x.key=.int .i64 k):∃ v,x.val=.int .i64 v∧f k=some v:=by
 obtain ⟨_,k',v,h1,h2,h3⟩:=h.1 x hx
 rw [hk] at h1;cases h1
 exact ⟨v,h2,h3⟩
theorem zd3.push {es:Array MapEntry} {c:Nat} {f:Int→Option Int} (h:zd3 es.toList c f) {k v:Int} (hk:∀ x∈es.toList,x.key≠.int .i64 k):zd3 (es.push { key:=.int .i64 k,val:=.int .i64 v,born:=c }).toList (c+1) (mapSet f k v):=by
 refine zd3.of (stamped_push h.stamped hk) (fun x hx=>?_) (fun k' v' hf=>?_)
 ·rw [Array.toList_push,List.mem_append] at hx
  rcases hx with hx | hx
  ·obtain ⟨_,k1,v1,h1,h2,h3⟩:=h.1 x hx
   refine ⟨k1,v1,h1,h2,?_⟩
   unfold mapSet
   rw [if_neg (by rintro rfl;exact hk x hx h1)];exact h3
  ·rw [List.mem_singleton] at hx;subst hx
   exact ⟨k,v,rfl,rfl,by unfold mapSet;rw [if_pos rfl]⟩
 ·unfold mapSet at hf
  split at hf
  ·rename_i he
   subst he;cases hf
   exact ⟨_,by rw [Array.toList_push,List.mem_append];exact .inr (List.mem_singleton.2 rfl),rfl,rfl⟩
  ·obtain ⟨e,he,h1⟩:=h.2.2.2 k' v' hf
   exact ⟨e,by rw [Array.toList_push,List.mem_append];exact .inl he,h1⟩
section
variable {P:Program} {C:Cx} {n:Nat} {s:Nat→V} {m:Nat→Ob} {w:World} {G:Im} {X:Xm}
end
end Go.Abs
end
section
set_option linter.unusedSimpArgs false
set_option linter.unusedVariables false
namespace Go.Abs
section
variable {P:Program} {C:Cx} {n:Nat} {ops:Array Oper} {K:List (Nat × Oper × Ev)→St→Prop} {r:List (Oper × Nat)} {acc:List (Nat × Oper × Ev)} {ix:Nat} {s:Nat→V} {m:Nat→Ob} {d:Tmp} {ty:TypeId} {pos:String} {after:Array Edge} {g:Option (Nat × Bool)}
end
section
variable {P:Program} {C:Cx} {n:Nat} {Q:Exit→St→Prop} {s:Nat→V} {m:Nat→Ob}
end
section
variable {P:Program} {n:Nat} {ops:Array Oper} {K:List (Nat × Oper × Ev)→St→Prop} {r:List (Oper × Nat)} {acc:List (Nat × Oper × Ev)} {ix:Nat} {s:Nat→V} {m:Nat→Ob} {d:Tmp} {ty:TypeId} {pos:String} {after:Array Edge} {g:Option (Nat × Bool)}
theorem zhr {x:Operand} {v:V} (hr:Run P n ops K r ((ix,⟨some d,.move x,ty,pos,after,g⟩,⟨v,[],[]⟩)::acc) ⟨upd s d v,m⟩) (hg:zD n ops ⟨some d,.move x,ty,pos,after,g⟩ ⟨s,m⟩=some true:=by rfl) (hx:ev n s x=v:=by conv=>lhs;whnf):Run P n ops K ((⟨some d,.move x,ty,pos,after,g⟩,ix)::r) acc ⟨s,m⟩ :=
 run_gen hg (fun s' m' h1 h2 C G X w ρ hM hE=>by
  have hx':=hE x
  rw [h1 x (by simp [Op.operands])] at hx'
  have hx2:ev n s x=v:=hx
  replace hx':V.Is G X (ev n s x) (ρ x):=hx'
  rw [hx2] at hx'
  exact zaM hM hx') hr
end
end Go.Abs
end
