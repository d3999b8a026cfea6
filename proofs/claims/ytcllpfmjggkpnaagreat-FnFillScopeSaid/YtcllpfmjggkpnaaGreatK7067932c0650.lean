/- A part of the proof: what the functions that the law calls answer, as pure values. -/
import Derived.Shelf.Spec.SlicesInsertGrow
import Derived.Test.YtcllpfmjggkpnaaGreatKd6afddc3eec8
set_option linter.unusedSimpArgs false
set_option linter.unusedVariables false
section
set_option linter.unusedVariables false
set_option linter.unusedSimpArgs false
namespace Go.Abs
open Go.Sort
theorem setCell_heap {w:World} {g o:Nat} {cur:Array Value} {e:TypeId} {fr:Nat × Nat} (v:Value) (h:w.heap[g]?=some (.cells cur e fr)):(w.setCell ⟨g,o,none⟩ v).heap[g]?=some (.cells (cur.setIfInBounds o v) e fr):=by
 simp [World.setCell,Array.getElem?_modify,h]
theorem setCell_rest {w:World} {g o k:Nat} (v:Value) (h:k≠g):(w.setCell ⟨g,o,none⟩ v).heap[k]?=w.heap[k]?:=by
 simp [World.setCell,Array.getElem?_modify,Ne.symm h]
theorem ze7:∀ (vs:List Value) {w:World} {g o:Nat} {cur:Array Value} {e:TypeId} {fr:Nat × Nat},w.heap[g]?=some (.cells cur e fr)→o+vs.length≤cur.size →
  ∃ cur',(w.setCells g o vs).heap[g]?=some (.cells cur' e fr)∧cur'.size=cur.size∧cur'.toList=cur.toList.take o++vs++cur.toList.drop (o+vs.length)
 | [],w,g,o,cur,e,fr,h,hl=>⟨cur,h,rfl,by simp⟩
 | v::vs,w,g,o,cur,e,fr,h,hl=>by
   rw [List.length_cons] at hl
   have h1:=setCell_heap (o:=o) v h
   obtain ⟨cur',h2,h3,h4⟩:=ze7 vs (o:=o+1) h1 (by simp;omega)
   refine ⟨cur',h2,by rw [h3];simp,?_⟩
   rw [h4]
   apply List.ext_getElem?
   intro j
   have hs:(cur.setIfInBounds o v).toList=cur.toList.set o v:=by simp
   rw [hs]
   have ho:o < cur.toList.length:=by simp;omega
   have e1:(cur.toList.set o v).take (o+1)=cur.toList.take o++[v]:=by
    apply List.ext_getElem?
    intro i
    by_cases hi:i < o
    ·rw [List.getElem?_take,if_pos (by omega),List.getElem?_set_ne (by omega),List.getElem?_append_left (by simp;omega),List.getElem?_take,if_pos hi]
    ·by_cases hi2:i=o
     ·subst hi2
      rw [List.getElem?_take,if_pos (by omega),List.getElem?_set_self ho,List.getElem?_append_right (by simp;omega)]
      simp [Nat.min_eq_left (Nat.le_of_lt (by simpa using ho))]
     ·rw [List.getElem?_take,if_neg (by omega),List.getElem?_eq_none (by simp;omega)]
   have e2:(cur.toList.set o v).drop (o+1+vs.length)=cur.toList.drop (o+(vs.length+1)):=by
    rw [show o+(vs.length+1)=o+1+vs.length by omega]
    apply List.ext_getElem?
    intro i
    rw [List.getElem?_drop,List.getElem?_drop,List.getElem?_set_ne (by omega)]
   rw [e1,e2,List.length_cons,List.append_assoc,List.append_assoc,List.append_assoc]
   rfl
theorem ze5:∀ (vs:List Value) (w:World) (g o:Nat),(w.setCells g o vs).heap.size=w.heap.size
 | [],_,_,_=>rfl
 | v::vs,w,g,o=>by
   show ((w.setCell ⟨g,o,none⟩ v).setCells g (o+1) vs).heap.size=_
   rw [ze5 vs];simp [World.setCell]
theorem ze6:∀ (vs:List Value) (w:World) (g o k:Nat),k≠g→(w.setCells g o vs).heap[k]?=w.heap[k]?
 | [],_,_,_,_,_=>rfl
 | v::vs,w,g,o,k,h=>by
   show ((w.setCell ⟨g,o,none⟩ v).setCells g (o+1) vs).heap[k]?=_
   rw [ze6 vs _ _ _ _ h,setCell_rest _ h]
theorem zgl:∀ (vs:List Value) (w:World) (g o:Nat),(w.setCells g o vs).os=w.os∧(w.setCells g o vs).tape=w.tape∧(w.setCells g o vs).output=w.output
 | [],_,_,_=>⟨rfl,rfl,rfl⟩
 | v::vs,w,g,o=>zgl vs (w.setCell ⟨g,o,none⟩ v) g (o+1)
end Go.Abs
end
section
set_option linter.unusedVariables false
set_option linter.unusedSimpArgs false
namespace Go.Abs
open Go.Sort
theorem ins_done {P:Program} {C:Cx} {m:Nat→Ob} {w:World} {G:Im} {X:Xm} {e:TypeId} {ys:List Int} (h1:szOf P e=some 1) (hM:Mem P C m w G X) {x:Value} (hx:X 9300=some x) (hid:m 9200=.no)
  {w':World} {g' cap':Nat} {cur':Array Value} (hos:w'.os=w.os) (htape:w'.tape=w.tape) (hout:w'.output=w.output) (hsize:w.heap.size≤w'.heap.size)
  (hblk:∀ b,b < w.heap.size→¬ (m 9300).has w x b→w'.heap[b]?=w.heap[b]?) (hG0:∀ b,(m 9300).has w x b→G b=none)
  (hg':w'.heap[g']?=some (.cells cur' e (0,0))) (h4:ys.length≤cap') (h5:cap'≤maxLen) (h6:cur'.size=cap') (hc:∀ (j:Nat) (n:Int),ys[j]?=some n→cur'.toList[j]?=some (.int .i64 n)) (hGn:G g'=none) (hown:(m 9300).has w x g'∨w.heap.size≤g') :
  Mem P C (upd (upd m 9300 .dead) 9200 (.arr (ys.map rI) e true)) w' G (upd X 9200 (some (.slice (some ⟨g',0,none⟩) ys.length cap'))):=by
 refine (hM.renew (x':=.slice (some ⟨g',0,none⟩) ys.length cap') hx hid (.arr (ys.map rI) e true) hos htape hout hsize hblk hG0 (by simp) (fun b hb=>?_) (arr_ints_ok h1 hg' h4 h5 h6 hc hGn) rfl).1
 rw [Ob.has_arr'] at hb
 obtain ⟨a,n,c,ha,hb⟩:=hb
 simp at ha
 obtain ⟨rfl,_,_⟩:=ha
 rw [hb];exact hown
theorem objs_ins {o p q:Ob}:upd (upd (objs [(9300,o),(9302,p)]) 9300 .dead) 9200 q=objs [(9300,.dead),(9302,p),(9200,q)]:=by
 funext i
 simp only [upd,objs]
 by_cases h1:i=9200
 ·subst h1;simp
 ·by_cases h2:i=9300
  ·subst h2;simp
  ·simp [h1,h2]
theorem ins_get {xs:List Int} {i:Nat} {v:Int} (hi:i≤xs.length) {l:List Value} (hl:l=(xs.take i).map (Value.int .i64)++[.int .i64 v]++(xs.drop i).map (Value.int .i64)) {rest:List Value} (j:Nat) (n:Int) (hj:(xs.take i++v::xs.drop i)[j]?=some n):(l++rest)[j]?=some (.int .i64 n):=by
 have e:l=(xs.take i++v::xs.drop i).map (Value.int .i64):=by rw [hl];simp
 have hlt:=(List.getElem?_eq_some_iff.1 hj).1
 rw [List.getElem?_append_left (by rw [e,List.length_map];exact hlt),e,List.getElem?_map,hj];rfl
theorem al_old (w:World) (o:Obj) (b:Nat) (hb:b < w.heap.size):(w.drew.alloc o).heap[b]?=w.heap[b]?:=by
 show (w.heap.push o)[b]?=_
 rw [Array.getElem?_push,if_neg (by omega)]
theorem al_new (w:World) (o:Obj):(w.drew.alloc o).heap[w.heap.size]?=some o:=by
 show (w.heap.push o)[w.heap.size]?=_
 rw [Array.getElem?_push,if_pos rfl]
theorem al_size (w:World) (o:Obj):w.heap.size≤(w.drew.alloc o).heap.size:=by
 show _≤(w.heap.push o).size
 rw [Array.size_push];omega
theorem zc_size (n:Nat):(Builtin.zeroCells (Value.int .i64 0).cells n).size=n:=by
 simp [Builtin.zeroCells,Value.cells]
theorem take_ints {xs:List Int} {cur:Array Value} (hc:∀ (j:Nat) (n:Int),xs[j]?=some n→cur.toList[j]?=some (.int .i64 n)) (h:xs.length≤cur.size):cur.toList.take xs.length=xs.map (Value.int .i64):=by
 apply List.ext_getElem?
 intro j
 rw [List.getElem?_take,List.getElem?_map]
 by_cases hj:j < xs.length
 ·rw [if_pos hj,List.getElem?_eq_getElem hj,hc j _ (List.getElem?_eq_getElem hj)];rfl
 ·rw [if_neg hj,List.getElem?_eq_none (by omega)];rfl
theorem ac_insert {P:Program} {f e:Nat} (xs:List Int) (i:Nat) (v:Int) (hi:i≤xs.length) (hfn:∃ fn,P.funcs[f]?=some fn∧fn.body.isSome=true∧(fn.name == "runtime.NumGoroutine")=false) (h1:szOf P e=some 1) (hbig:(xs.length+1)*8≤140737488355328)
  (hshift:∀ (b n c i vb vc:Nat) (cs vs:List Value) (w:World),i < n→n+1≤c→c≤9223372036854775807→vb≠b→cs.length=n→vs.length=1→(∀ j v,cs[j]?=some v→w.cell? ⟨b,0+j,none⟩=some v)→(∀ j,j < n+1→(w.cell? ⟨b,0+j,none⟩).isSome=true)→(∀ j,j < n+1→w.frozen? ⟨b,0+j,none⟩=false)→(∀ j v,vs[j]?=some v→w.cell? ⟨vb,0+j,none⟩=some v)→(∀ v∈cs,v.oneCell'=true)→(∀ v∈vs,v.oneCell'=true) →
   ∀ (tA tB:TypeId) (kA kB:Nat),w.shape? vb=some (tA,kA)→w.shape? b=some (tB,kB)→kB≠0→w.frozen? ⟨vb,0,none⟩=false→w.frozen? ⟨vb,kA,none⟩=false →
   Calls P f #[.slice (some ⟨b,0,none⟩) n c,.int .i64 i,.slice (some ⟨vb,0,none⟩) 1 vc] w fun e' w'=>e'=.returned (.slice (some ⟨b,0,none⟩) (n+1) c)∧w'=(w.drew.setCells b (0+(i+1)) (cs.drop i)).setCells b (0+i) vs)
  (hroom:∀ (b n c vb vc:Nat) (vs:List Value) (w:World),n+1≤c→c≤9223372036854775807→vs.length=1→(∀ j,j < 1→(w.cell? ⟨b,0+n+j,none⟩).isSome=true)→(∀ j,j < 1→w.frozen? ⟨b,0+n+j,none⟩=false)→(∀ j v,vs[j]?=some v→w.cell? ⟨vb,0+j,none⟩=some v)→(∀ v∈vs,v.oneCell'=true) →
   Calls P f #[.slice (some ⟨b,0,none⟩) n c,.int .i64 n,.slice (some ⟨vb,0,none⟩) 1 vc] w fun e' w'=>e'=.returned (.slice (some ⟨b,0,none⟩) (n+1) c)∧w'=w.setCells b (0+n) vs)
  (hendg:∀ (base:Option Addr) (n c vb vc:Nat) (cs vs:List Value) (w:World),n≤c→c < n+1→(n+1)*8≤140737488355328→cs.length=n→vs.length=1→(base=none→n=0)→(∀ a,base=some a→∀ j v,cs[j]?=some v→w.cell? (a.add j)=some v)→(∀ j v,vs[j]?=some v→w.cell? ⟨vb,0+j,none⟩=some v)→(∀ v∈vs,v.oneCell'=true) →
   Calls P f #[.slice base n c,.int .i64 n,.slice (some ⟨vb,0,none⟩) 1 vc] w fun e' w'=>e'=.returned (.slice (some ⟨w.heap.size,0,none⟩) (n+1) (grownCap w (n+1) c e))∧w'=w.drew.alloc (.cells ((cs++vs).toArray++Builtin.zeroCells (Value.int .i64 0).cells (grownCap w (n+1) c e-(n+1))) e))
  (hgrow:∀ (b n c i vb vc:Nat) (cs vs:List Value) (w:World),i < n→n≤c→c < n+1→(n+1)*8≤140737488355328→cs.length=n→vs.length=1→(∀ j v,cs[j]?=some v→w.cell? ⟨b,0+j,none⟩=some v)→(∀ j v,vs[j]?=some v→w.cell? ⟨vb,0+j,none⟩=some v)→(∀ v∈cs,v.oneCell'=true)→(∀ v∈vs,v.oneCell'=true) →
   Calls P f #[.slice (some ⟨b,0,none⟩) n c,.int .i64 i,.slice (some ⟨vb,0,none⟩) 1 vc] w fun e' w'=>e'=.returned (.slice (some ⟨w.heap.size,0,none⟩) (n+1) (grownCap w (n+1) c e)) ∧
    w'=(((w.alloc (.cells ((cs.take i).toArray++Builtin.zeroCells (Value.int .i64 0).cells (n+1-i)++Builtin.zeroCells (Value.int .i64 0).cells (grownCap w (n+1) c e-(n+1))) e)).drew.setCells w.heap.size i vs).drew).setCells w.heap.size (i+1) (cs.drop i)) :
  AC P f [.ar 9300,.t (.sc (.int .i64 i)),.ar 9302] (objs [(9300,.arr (xs.map rI) e true),(9302,.arr ([v].map rI) e true)]) (.ar 9200) (objs [(9300,.dead),(9302,.arr ([v].map rI) e true),(9200,.arr ((xs.take i++v::xs.drop i).map rI) e true)]):=by
 refine ⟨hfn,?_⟩
 intro w G X own ys hM hx
 rw [V.IsL] at hx
 obtain ⟨x,ys,rfl,hx1,hx⟩:=hx
 rw [V.IsL] at hx
 obtain ⟨z,ys,rfl,h2,hx⟩:=hx
 rw [V.IsL] at hx
 obtain ⟨x2,ys,rfl,hx2,hx⟩:=hx
 rw [V.IsL] at hx
 subst hx
 rw [V.Is] at hx1 hx2
 rw [V.Is,T.Is] at h2
 subst h2
 have ho:=hM.ob 9300 x hx1
 have ho2:=hM.ob 9302 x2 hx2
 have e1:objs [(9300,Ob.arr (xs.map rI) e true),(9302,.arr ([v].map rI) e true)] 9300=.arr (xs.map rI) e true:=by simp [objs]
 have e2:objs [(9300,Ob.arr (xs.map rI) e true),(9302,.arr ([v].map rI) e true)] 9302=.arr ([v].map rI) e true:=by simp [objs]
 rw [e1] at ho
 rw [e2] at ho2
 have hylen:(xs.take i++v::xs.drop i).length=xs.length+1:=by simp;omega
 rcases arr_ints h1 ho2 with ⟨_,h0⟩ | ⟨g2,cap2,cur2,rfl,hg2,hlt2,h42,h52,h62,C2,hG2⟩
 ·cases h0
 have hvs:∀ (j:Nat) (u:Value),[Value.int .i64 v][j]?=some u→w.cell? ⟨g2,0+j,none⟩=some u:=by
  intro j u hj
  cases j with
  | zero =>
    have hu:u=.int .i64 v:=by simpa using hj.symm
    rw [cell_at hg2,hu];exact C2 0 v rfl
  | succ j=>simp at hj
 have V1:∀ u∈[Value.int .i64 v],u.oneCell'=true:=by intro u hu;rw [List.mem_singleton.1 hu];rfl
 have fin:∀ {w':World} {g' cap':Nat},Mem P ⟨w,G,own,X⟩ (upd (upd (objs [(9300,.arr (xs.map rI) e true),(9302,.arr ([v].map rI) e true)]) 9300 .dead) 9200 (.arr ((xs.take i++v::xs.drop i).map rI) e true)) w' G (upd X 9200 (some (.slice (some ⟨g',0,none⟩) (xs.take i++v::xs.drop i).length cap'))) →
   ∃ y G' X',Ending.returned (.slice (some ⟨g',0,none⟩) (xs.length+1) cap')=.returned y∧Mem P ⟨w,G,own,X⟩ (objs [(9300,.dead),(9302,.arr ([v].map rI) e true),(9200,.arr ((xs.take i++v::xs.drop i).map rI) e true)]) w' G' X'∧V.Is G' X' (.ar 9200) y:=by
  intro w' g' cap' hm
  rw [objs_ins] at hm
  rw [hylen] at hm
  exact ⟨_,G,_,rfl,hm,by rw [V.Is,zv]⟩
 rcases arr_ints h1 ho with ⟨⟨A,rfl⟩,rfl⟩ | ⟨g,cap,cur,rfl,hg,hlt,h4,h5,h6,hc,hG⟩
 ·have hi0:i=0:=by simpa using hi
  subst hi0
  refine (hendg A 0 0 g2 (cap2+1) [] [.int .i64 v] w (Nat.le_refl _) (by omega) (by omega) rfl rfl (fun _=>rfl) (fun a _ j u hj=>by simp at hj) hvs V1).mono ?_
  rintro e' w' ⟨rfl,rfl⟩
  refine fin (ins_done h1 hM hx1 (by simp [objs]) rfl rfl rfl (al_size _ _) (fun b hb _=>al_old w _ b hb) (fun b hb=>by rw [e1] at hb;exact (has_capless hb).elim) (al_new w _) (by have:=grownCap_ge w 1 0 e;simpa using this) (grownCap_le_maxLen w 1 0 e (by decide)) (by have:=grownCap_ge w 1 0 e;rw [Array.size_append,zc_size];simp;omega) (fun j n hj=>?_) (hM.gok.none (Nat.le_refl _)) (.inr (Nat.le_refl _)))
  rw [Array.toList_append]
  exact ins_get (xs:=[]) (i:=0) (v:=v) (Nat.le_refl _) (by simp) j n hj
 ·have hG0:∀ b,Ob.has w (objs [(9300,Ob.arr (xs.map rI) e true),(9302,.arr ([v].map rI) e true)] 9300) (.slice (some ⟨g,0,none⟩) xs.length (cap+1)) b→G b=none:=fun b hb=>by rw [e1,Ob.has_arr] at hb;subst hb;exact hG
  have hgh:Ob.has w (objs [(9300,Ob.arr (xs.map rI) e true),(9302,.arr ([v].map rI) e true)] 9300) (.slice (some ⟨g,0,none⟩) xs.length (cap+1)) g:=by rw [e1,Ob.has_arr]
  have hne:g2≠g:=by
   intro hh
   have h9:Ob.has w (objs [(9300,Ob.arr (xs.map rI) e true),(9302,.arr ([v].map rI) e true)] 9302) (.slice (some ⟨g2,0,none⟩) [v].length (cap2+1)) g:=by rw [e2,Ob.has_arr];exact hh.symm
   have:=hM.apart 9300 9302 _ _ g hx1 hx2 hgh h9
   omega
  have hcs:∀ (j:Nat) (u:Value),(xs.map (Value.int .i64))[j]?=some u→w.cell? ⟨g,0+j,none⟩=some u:=by
   intro j u hj
   rw [List.getElem?_map] at hj
   cases hx:xs[j]? with
   | none=>rw [hx] at hj;cases hj
   | some n =>
     rw [hx] at hj
     have:u=.int .i64 n:=by simpa using hj.symm
     rw [Nat.zero_add,cell_at hg,this];exact hc j n hx
  have hcl:(xs.map (Value.int .i64)).length=xs.length:=List.length_map _
  have h1c:∀ u∈xs.map (Value.int .i64),u.oneCell'=true:=by
   intro u hu
   obtain ⟨n,_,rfl⟩:=List.mem_map.1 hu;rfl
  have htk:=take_ints hc (by omega)
  by_cases hin:i=xs.length
  ·subst hin
   by_cases hrm:xs.length+1≤cap+1
   ·refine (hroom g xs.length (cap+1) g2 (cap2+1) [.int .i64 v] w hrm (by unfold maxLen at h5;omega) rfl (fun j hj=>?_) (fun j hj=>?_) hvs V1).mono ?_
    ·rw [cell_at hg,List.getElem?_eq_getElem (by simp;omega)];rfl
    ·simp [World.frozen?,hg]
    ·rintro e' w' ⟨rfl,rfl⟩
     obtain ⟨cur',q1,q2,q3⟩:=ze7 [.int .i64 v] (o:=0+xs.length) hg (by simp;omega)
     obtain ⟨o1,o2,o3⟩:=zgl [.int .i64 v] w g (0+xs.length)
     refine fin (ins_done h1 hM hx1 (by simp [objs]) o1 o2 o3 (by rw [ze5];exact Nat.le_refl _) (fun b hb hnb=>ze6 _ _ _ _ _ (fun hh=>hnb (by rw [hh];exact hgh))) hG0 q1 (by rw [hylen];exact hrm) h5 (by rw [q2];exact h6) (fun j n hj=>?_) hG (.inl hgh))
     rw [q3,Nat.zero_add,htk]
     exact ins_get hi (by rw [List.take_length,List.drop_length];simp) j n hj
   ·refine (hendg (some ⟨g,0,none⟩) xs.length (cap+1) g2 (cap2+1) (xs.map (Value.int .i64)) [.int .i64 v] w h4 (by omega) hbig hcl rfl (fun h=>by cases h) (fun a ha j u hj=>?_) hvs V1).mono ?_
    ·cases ha
     have:=hcs j u hj
     rw [Addr.add_lit];exact this
    ·rintro e' w' ⟨rfl,rfl⟩
     refine fin (ins_done h1 hM hx1 (by simp [objs]) rfl rfl rfl (al_size _ _) (fun b hb _=>al_old w _ b hb) hG0 (al_new w _) (by have:=grownCap_ge w (xs.length+1) (cap+1) e;rw [hylen];exact this) (grownCap_le_maxLen w _ _ e (by unfold maxLen;omega)) (by have:=grownCap_ge w (xs.length+1) (cap+1) e;rw [Array.size_append,zc_size];simp;omega) (fun j n hj=>?_) (hM.gok.none (Nat.le_refl _)) (.inr (Nat.le_refl _)))
     rw [Array.toList_append]
     exact ins_get hi (by rw [List.take_length,List.drop_length];simp) j n hj
  ·have hil:i < xs.length:=by omega
   by_cases hrm:xs.length+1≤cap+1
   ·refine (hshift g xs.length (cap+1) i g2 (cap2+1) (xs.map (Value.int .i64)) [.int .i64 v] w hil hrm (by unfold maxLen at h5;omega) hne hcl rfl hcs (fun j hj=>?_) (fun j hj=>?_) hvs h1c V1 e e (cap2+1) (cap+1) ?_ ?_ (by omega) ?_ ?_).mono ?_
    ·rw [cell_at hg,List.getElem?_eq_getElem (by simp;omega)];rfl
    ·simp [World.frozen?,hg]
    ·simp [World.shape?,hg2,h62]
    ·simp [World.shape?,hg,h6]
    ·simp [World.frozen?,hg2]
    ·simp [World.frozen?,hg2]
    ·rintro e' w' ⟨rfl,rfl⟩
     have hdl:((xs.map (Value.int .i64)).drop i).length=xs.length-i:=by simp
     obtain ⟨cur1,a1,a2,a3⟩:=ze7 ((xs.map (Value.int .i64)).drop i) (w:=w.drew) (o:=0+(i+1)) hg (by rw [hdl];omega)
     obtain ⟨cur3,b1,b2,b3⟩:=ze7 [.int .i64 v] (o:=0+i) a1 (by simp;omega)
     obtain ⟨o1,o2,o3⟩:=zgl ((xs.map (Value.int .i64)).drop i) w.drew g (0+(i+1))
     obtain ⟨p1,p2,p3⟩:=zgl [.int .i64 v] (w.drew.setCells g (0+(i+1)) ((xs.map (Value.int .i64)).drop i)) g (0+i)
     refine fin (ins_done h1 hM hx1 (by simp [objs]) (p1.trans o1) (p2.trans o2) (p3.trans o3) (by rw [ze5,ze5];exact Nat.le_refl _) (fun b hb hnb=>?_) hG0 b1 (by rw [hylen];exact hrm) h5 (by rw [b2,a2];exact h6) (fun j n hj=>?_) hG (.inl hgh))
     ·have hbg:b≠g:=fun hh=>hnb (by rw [hh];exact hgh)
      rw [ze6 _ _ _ _ _ hbg,ze6 _ _ _ _ _ hbg];rfl
     ·have hcl2:(cur.toList.take (i+1)).length=i+1:=by simp;omega
      have d1:cur1.toList.drop (i+1)=(xs.drop i).map (Value.int .i64)++cur.toList.drop (0+(i+1)+((xs.map (Value.int .i64)).drop i).length):=by
       rw [a3,Nat.zero_add,List.append_assoc,List.drop_left' hcl2,List.map_drop]
      have d2:cur1.toList.take i=(xs.take i).map (Value.int .i64):=by
       rw [a3,Nat.zero_add,List.append_assoc,List.take_append_of_le_length (by omega),List.take_take,Nat.min_eq_left (by omega),List.map_take,← htk,List.take_take,Nat.min_eq_left (by omega)]
      rw [b3,Nat.zero_add,d2,show i+[Value.int .i64 v].length=i+1 from rfl,d1,← List.append_assoc]
      exact ins_get hi rfl j n hj
   ·refine (hgrow g xs.length (cap+1) i g2 (cap2+1) (xs.map (Value.int .i64)) [.int .i64 v] w hil h4 (by omega) hbig hcl rfl hcs hvs h1c V1).mono ?_
    rintro e' w' ⟨rfl,rfl⟩
    have hge:=grownCap_ge w (xs.length+1) (cap+1) e
    have hdl:((xs.map (Value.int .i64)).drop i).length=xs.length-i:=by simp
    have htl:((xs.map (Value.int .i64)).take i).length=i:=by simp;omega
    generalize C0:((xs.map (Value.int .i64)).take i).toArray++Builtin.zeroCells (Value.int .i64 0).cells (xs.length+1-i)++Builtin.zeroCells (Value.int .i64 0).cells (grownCap w (xs.length+1) (cap+1) e-(xs.length+1))=c0
    have hs0:c0.size=grownCap w (xs.length+1) (cap+1) e:=by
     rw [← C0,Array.size_append,Array.size_append,zc_size,zc_size,List.size_toArray,htl];omega
    have ht0:c0.toList.take i=(xs.take i).map (Value.int .i64):=by
     rw [← C0,Array.toList_append,Array.toList_append,List.append_assoc]
     show (((xs.map (Value.int .i64)).take i)++_).take i=_
     rw [List.take_left' htl,List.map_take]
    have hnew:(w.alloc (.cells c0 e)).drew.heap[w.heap.size]?=some (.cells c0 e (0,0)):=al_new w _
    obtain ⟨cur1,a1,a2,a3⟩:=ze7 [.int .i64 v] (w:=(w.alloc (.cells c0 e)).drew) (o:=i) hnew (by simp;omega)
    obtain ⟨cur3,b1,b2,b3⟩:=ze7 ((xs.map (Value.int .i64)).drop i) (w:=((w.alloc (.cells c0 e)).drew.setCells w.heap.size i [.int .i64 v]).drew) (o:=i+1) a1 (by rw [hdl];omega)
    obtain ⟨o1,o2,o3⟩:=zgl [.int .i64 v] (w.alloc (.cells c0 e)).drew w.heap.size i
    obtain ⟨p1,p2,p3⟩:=zgl ((xs.map (Value.int .i64)).drop i) ((w.alloc (.cells c0 e)).drew.setCells w.heap.size i [.int .i64 v]).drew w.heap.size (i+1)
    refine fin (ins_done h1 hM hx1 (by simp [objs]) (p1.trans o1) (p2.trans o2) (p3.trans o3) ?_ (fun b hb hnb=>?_) hG0 b1 (by rw [hylen];exact hge) (grownCap_le_maxLen w _ _ e (by unfold maxLen;omega)) (by rw [b2,a2];exact hs0) (fun j n hj=>?_) (hM.gok.none (Nat.le_refl _)) (.inr (Nat.le_refl _)))
    ·rw [ze5]
     show _≤((w.alloc (.cells c0 e)).drew.setCells w.heap.size i [.int .i64 v]).heap.size
     rw [ze5];exact al_size w _
    ·have hbg:b≠w.heap.size:=by omega
     rw [ze6 _ _ _ _ _ hbg]
     show ((w.alloc (.cells c0 e)).drew.setCells w.heap.size i [.int .i64 v]).heap[b]?=_
     rw [ze6 _ _ _ _ _ hbg]
     exact al_old w _ b hb
    ·have hl1:(c0.toList.take i++[Value.int .i64 v]).length=i+1:=by rw [ht0];simp;omega
     have d1:cur1.toList.take (i+1)=(xs.take i).map (Value.int .i64)++[.int .i64 v]:=by
      rw [a3,List.take_left' hl1,ht0]
     rw [b3,d1,← List.map_drop]
     exact ins_get hi rfl j n hj
end Go.Abs
end
