/- A part of the proof: what the functions that the law calls answer, as pure values. -/
import Derived.Lib.SlicesCompact
import Derived.Sort.Grow
import Derived.Test.YtcllpfmjggkpnaaGreatKb0726ca88cca
set_option linter.unusedSimpArgs false
set_option linter.unusedVariables false
section
set_option linter.unusedVariables false
set_option linter.unusedSimpArgs false
namespace Go.Abs
open Go.Sort
theorem rows_ints {G:Im} {xs:List Int} {l:List Value}:T.Rows G 1 (xs.map rI) l↔∀ (j:Nat) (n:Int),xs[j]?=some n→l[j]?=some (.int .i64 n):=by
 constructor
 ·intro h j n hj
  obtain ⟨_,⟨c,hc,hi⟩,_⟩:=h.get j (rI n) (by rw [List.getElem?_map,hj];rfl)
  rw [T.Is] at hi;subst hi
  rw [List.getElem?_drop,Nat.mul_one,Nat.add_zero] at hc
  exact hc
 ·intro h
  refine T.Rows.of_get fun i r hr=>?_
  rw [List.getElem?_map] at hr
  cases hx:xs[i]? with
  | none=>simp [hx] at hr
  | some n =>
    simp [hx] at hr;subst hr
    exact ⟨rfl,⟨_,by rw [List.getElem?_drop,Nat.mul_one,Nat.add_zero];exact h i n hx,by rw [T.Is];rfl⟩,trivial⟩
theorem arr_ints {P:Program} {G:Im} {X:Xm} {w:World} {xs:List Int} {e:TypeId} {x:Value} (h1:szOf P e=some 1) (h:Ob.Ok P G X w (.arr (xs.map rI) e true) x) :
  ((∃ A,x=.slice A 0 0)∧xs=[])∨∃ g cap cur,x=.slice (some ⟨g,0,none⟩) xs.length (cap+1)∧w.heap[g]?=some (.cells cur e (0,0))∧g < w.heap.size∧xs.length≤cap+1∧cap+1≤maxLen∧cur.size=cap+1∧(∀ (j:Nat) (n:Int),xs[j]?=some n→cur.toList[j]?=some (.int .i64 n))∧G g=none:=by
 obtain ⟨cs,i,hi,hown,hr,hn⟩:=h
 have hi1:i.size=1:=by rw [szOf,hi] at h1;simpa using h1
 rw [hi1] at hown hr
 rcases zdU hown with ⟨hx,h0,_⟩ | ⟨g,cap,cur,rfl,hg,hlt,h4,h5,h6,h7,hsub⟩
 ·exact .inl ⟨hx,by simpa using h0⟩
 ·rw [List.length_map] at h4
  refine .inr ⟨g,cap,cur,by rw [List.length_map],hg,hlt,h4,h5,by simpa using h6,fun j n hj=>?_,by simpa using hn _ _ _ rfl⟩
  have:=rows_ints.1 hr j n hj
  rw [← h7] at this
  rw [List.getElem?_take] at this
  split at this
  ·exact this
  ·cases this
theorem arr_ints_ok {P:Program} {G:Im} {X:Xm} {w:World} {ys:List Int} {e:TypeId} {g cap:Nat} {cur:Array Value} (h1:szOf P e=some 1) (hg:w.heap[g]?=some (.cells cur e (0,0))) (h4:ys.length≤cap) (h5:cap≤maxLen) (h6:cur.size=cap)
  (hc:∀ (j:Nat) (n:Int),ys[j]?=some n→cur.toList[j]?=some (.int .i64 n)) (hG:G g=none):Ob.Ok P G X w (.arr (ys.map rI) e true) (.slice (some ⟨g,0,none⟩) ys.length cap):=by
 obtain ⟨i,hi,hi1⟩:∃ i,P.info? e=some i∧i.size=1:=by
  rw [szOf] at h1
  cases hi:P.info? e with
  | none=>simp [hi] at h1
  | some i=>exact ⟨i,rfl,by simpa [hi] using h1⟩
 refine ⟨cur.toList.take ys.length,i,hi,ownsZ_of ⟨by rw [hi1];simp;omega,.inr ⟨g,cap,cur,by simp,Nat.zero_le _,hg,by simpa using h4,h5,by rw [hi1];simpa using h6,by simp [hi1]⟩⟩,?_,?_⟩
 ·rw [hi1]
  refine rows_ints.2 fun j n hj=>?_
  rw [List.getElem?_take,if_pos (List.getElem?_eq_some_iff.1 hj).1]
  exact hc j n hj
 ·intro a n c ha
  simp at ha
  obtain ⟨rfl,_⟩:=ha
  simpa using hG
theorem has_capless {w:World} {es:List (List T)} {e:TypeId} {md:Bool} {A:Option Addr} {n b:Nat}:¬ Ob.has w (.arr es e md) (.slice A n 0) b:=by
 rw [Ob.has_arr'];rintro ⟨a,n,c,ha,_⟩;simp at ha
theorem objs_one {k:Nat} {o:Ob}:objs [(k,o)] k=o:=by simp [objs]
end Go.Abs
end
