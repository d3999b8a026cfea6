/- A part of the proof: what the functions that the law calls answer, as pure values. -/
import Derived.Test.YtcebadpiebamdaaGreatK075984cc7243
import Derived.Test.YtcebadpiebamdaaGreatK863b9396a6d1
import Derived.Test.YtcebadpiebamdaaGreatK4288d3e3b386
import Derived.Test.YtcebadpiebamdaaGreatK6096018ecbb5
import Derived.Test.YtcebadpiebamdaaGreatK0c09c3f6594f
set_option linter.unusedSimpArgs false
set_option linter.unusedVariables false
section
set_option linter.unusedVariables false
set_option linter.unusedSimpArgs false
namespace Go.Abs
section
variable {bs:List Bind} {lits:List Form} {P F:Form} {xs tail:List Form} {pr dd:Form}
theorem cntD_all:∀ {l:List Form},(∀ x∈l,zM x=false)→cntD l=0
 | [],_=>rfl
 | y::ys,h=>by rw [cntD,h y (by simp),cond_false,cntD_all (fun x hx=>h x (by simp [hx]))]
theorem cntD_app:∀ (a b:List Form),cntD (a++b)=cntD a+cntD b
 | [],b=>by simp [cntD]
 | x::a,b=>by rw [List.cons_append,cntD,cntD,cntD_app a b];omega
theorem set_end {α:Type} (l:List α) (z v:α):(l++[z]).set (l.length:Int).toNat v=l++[v]:=by
 rw [Int.toNat_natCast,List.set_append_right _ _ (Nat.le_refl _),Nat.sub_self];rfl
theorem idx_last {α:Type} (l:List α) (z:α):idx (l++[z]) (l.length:Int)=some z:=zL (by simp)
theorem match_l9_tr (v11:Int) (g34:List Hit) (v49:List Form) (g50:Int) (vs:List (Form × Int)) (rows:List (List Hit)) (inner:List Hit) (b:Bool) (hi:inner.length=vs.length) (hr:rows.length≤2 ^ 20) (hv:vs.length≤2 ^ 20) {v:List Hit × Bool}
  (hK:Tr (fun m=>zaP m bs P lits F v11 g34 v49 (w64 (g50+1)) (rowH 0 vs (rows++[inner]))) v) (g51:List Hit) (hg:g51.length=vs.length) :
  Tr (fun m=>za2 m bs P lits F v11 g34 v49 g50 g51 (inner,b) 0 (rowH 0 vs rows)) v:=by
 have key:=zaj vs (fun k zs=>Tr (fun m=>za2 m bs P lits F v11 g34 v49 g50 g51 (inner,b) (k:Int) ((rowH 0 vs (rows++[inner])).take k++(rowH 0 vs rows).drop k)) v) ?_ ?_ 0 (Nat.zero_le _)
 ·simpa using key
 ·have e1:(rowH 0 vs (rows++[inner])).take vs.length=rowH 0 vs (rows++[inner]):=List.take_of_length_le (by rw [zfa];exact Nat.le_refl _)
  have e2:(rowH 0 vs rows).drop vs.length=[]:=List.drop_of_length_le (by rw [zfa];exact Nat.le_refl _)
  rw [e1,e2,List.append_nil]
  exact Tr.step (fun m=>by rw [za2,hg,zad,cond_false]) hK
 ·intro k x zs hk hx hd ih
  have hl1:(rowH 0 vs (rows++[inner])).length=vs.length:=zfa _ _ _
  have hl2:(rowH 0 vs rows).length=vs.length:=zfa _ _ _
  have ht:((rowH 0 vs (rows++[inner])).take k).length=k:=by rw [List.length_take,hl1];omega
  have g1:=rowH_get (k:=0) (rows:=rows) hx
  have g2:=rowH_get (k:=0) (rows:=rows++[inner]) hx
  rw [Nat.zero_add] at g1 g2
  have hget:((rowH 0 vs (rows++[inner])).take k++(rowH 0 vs rows).drop k)[k]?=some (Hit.mk x.1 (x.2+1) form0 (rows.map fun r=>r.getD k hit0)):=by
   rw [List.getElem?_append_right (by omega),ht,Nat.sub_self,List.getElem?_drop,Nat.add_zero];exact g1
  have hin:inner[k]?=some (inner.getD k hit0):=by
   have:k < inner.length:=by omega
   rw [List.getD_eq_getElem?_getD,List.getElem?_eq_getElem this];rfl
  have hset:((rowH 0 vs (rows++[inner])).take k++(rowH 0 vs rows).drop k).set (k:Int).toNat (Hit.mk x.1 (x.2+1) form0 ((rows.map fun r=>r.getD k hit0)++[inner.getD k hit0]))=(rowH 0 vs (rows++[inner])).take (k+1)++(rowH 0 vs rows).drop (k+1):=by
   have h3:(rowH 0 vs rows).drop k=Hit.mk x.1 (x.2+1) form0 (rows.map fun r=>r.getD k hit0)::(rowH 0 vs rows).drop (k+1):=drop_get g1
   rw [Int.toNat_natCast,List.set_append_right _ _ (by omega),ht,Nat.sub_self,h3,List.set_cons_zero,List.take_add_one,g2,List.append_assoc]
   simp
  refine Tr.step (fun m=>by rw [za2,hg,ltN hk,cond_true,zL hget,Option.bind_some,zL hin,Option.bind_some]) ?_
  refine Tr.chk (decide_eq_true (by simp [Hit.many];omega)) ?_
  refine Tr.eq (fun m=>by rw [idx_last,Option.bind_some,Option.bind_some,zaM (by omega),zcj,set_end]) ?_
  simp only [Hit.name,Hit.depth,Hit.one,Hit.many]
  rw [hset];exact ih
theorem match_l8_tr (hS:MatS bs lits P F) (hR:RowS P F xs pr dd tail) (g34:List Hit) (v49:List Form) (hv:∀ f∈v49,f∈F.kids) (hvl:v49.length≤F.kids.length) (J:List Hit→List Hit × Bool)
  (hJ:∀ rows,rows.length=v49.length→(∀ r∈rows,r.length=(pr.vd lits 0).length)→Tr (fun m=>zbT m bs P lits F ((xs.length+1:Nat):Int) g34 (rowH 0 (pr.vd lits 0) rows)) (J (rowH 0 (pr.vd lits 0) rows))) :
  Tr (fun m=>zaP m bs P lits F ((xs.length+1:Nat):Int) g34 v49 0 (rowH 0 (pr.vd lits 0) [])) (match allM (fun f=>pr.mt bs lits f) v49 with
   | none=>([],false)
   | some rows=>J (rowH 0 (pr.vd lits 0) rows)):=by
 have h1:=RowS.lens hS hR
 have h2:=hR.plen
 have hpm:=List.mem_of_getElem? hR.at_pr
 have hpp:PatS pr:=(hS.kid pr hpm).pat hR.row
 have hpw:=Form.ws_mem hpm
 have hwp:=hS.wp
 have hvd:=Form.vd_len lits pr 0
 have key:=zaj v49 (fun k zs=>∀ rows:List (List Hit),rows.length=k→(∀ r∈rows,r.length=(pr.vd lits 0).length)→Tr (fun m=>zaP m bs P lits F ((xs.length+1:Nat):Int) g34 v49 (k:Int) (rowH 0 (pr.vd lits 0) rows)) (match allM (fun f=>pr.mt bs lits f) zs with
   | none=>([],false)
   | some ys=>J (rowH 0 (pr.vd lits 0) (rows++ys)))) ?_ ?_ 0 (Nat.zero_le _) [] rfl (fun r hr=>by cases hr)
 ·simpa using key
 ·intro rows hr hl
  rw [allM]
  simp only [List.append_nil]
  exact Tr.step (fun m=>by rw [zaP,zad,cond_false]) (hJ rows hr hl)
 ·intro k x zs hk hx hd ih rows hr hl
  refine Tr.step (fun m=>by rw [zaP,ltN hk,cond_true,zL hx,Option.bind_some,RowS.row_eq hS hR,zL hR.at_pr,Option.bind_some]) ?_
  refine Tr.bind (hS.ih pr hpm hR.row x (hv x (List.mem_of_getElem? hx))) ?_
  rw [allM]
  cases hm:pr.mt bs lits x with
  | none=>exact Tr.tt rfl Tr.val
  | some h =>
    have hlen:=mt_len hpp hm
    refine Tr.ff rfl ?_
    refine Tr.eq (fun m=>rfl) (match_l9_tr (bs:=bs) (lits:=lits) (P:=P) (F:=F) ((xs.length+1:Nat):Int) g34 v49 (k:Int) (pr.vd lits 0) rows h true hlen (by omega) (by omega) ?_ _ (zfa _ _ _))
    refine Tr.eq (fun m=>by rw [zaM (by omega),zcj]) ?_
    have:=ih (rows++[h]) (by simp [hr]) (fun r hr'=>by
     rcases List.mem_append.1 hr' with hr' | hr'
     ·exact hl r hr'
     ·rw [List.mem_singleton.1 hr'];exact hlen)
    cases ha:allM (fun f=>pr.mt bs lits f) zs with
    | none=>rw [ha] at this;exact this
    | some ys =>
      rw [ha] at this
      simp only [List.append_assoc,List.singleton_append] at this
      exact this
theorem match_l6_tr (v11:Int) (g34:List Hit) (vs:List (Form × Int)) (hw:∀ v∈vs,v.1.w≤2 ^ 30) (h0:∀ v∈vs,0≤v.2∧v.2≤2 ^ 30) (hl:vs.length≤2 ^ 20) {r:List Hit × Bool}
  (hK:Tr (fun m=>zb7 m bs P lits F v11 g34 (rowH 0 vs [])) r):Tr (fun m=>za3 m bs P lits F v11 g34 (vs.map (·.1),vs.map (·.2)) ([]:List Hit) 0) r:=by
 have key:=zaj vs (fun k zs=>∀ g:List Hit,g.length=k→g++rowH k zs []=rowH 0 vs []→Tr (fun m=>za3 m bs P lits F v11 g34 (vs.map (·.1),vs.map (·.2)) g (k:Int)) r) ?_ ?_ 0 (Nat.zero_le _) [] rfl (by rw [List.nil_append,List.drop_zero])
 ·exact key
 ·intro g hg he
  rw [rowH,List.append_nil] at he
  rw [he]
  exact Tr.step (fun m=>by rw [za3,List.length_map,zad,cond_false]) hK
 ·intro k v zs hk hx hd ih g hg he
  have hx1:(vs.map (·.1))[k]?=some v.1:=by rw [List.getElem?_map,hx];rfl
  have hx2:(vs.map (·.2))[k]?=some v.2:=by rw [List.getElem?_map,hx];rfl
  have hm:=List.mem_of_getElem? hx
  have hvw:=hw v hm
  have V0:=h0 v hm
  refine Tr.step (fun m=>by rw [za3,List.length_map,ltN hk,cond_true,zL hx1,Option.bind_some]) (Tr.bind (copyForm_tr v.1 (by omega)) ?_)
  refine Tr.eq (fun m=>by rw [zL hx2,Option.bind_some,zaM (n:=v.2+1) (by omega),zcj]) (Tr.chk (decide_eq_true (by simp;omega)) ?_)
  refine ih (g++[Hit.mk v.1 (v.2+1) form0 []]) (by simp [hg]) ?_
  rw [rowH] at he
  rw [List.append_assoc];exact he
theorem mts_row (hS:MatS bs lits P F) (hR:RowS P F xs pr dd tail):Form.mts bs lits (pr::dd::tail) (F.kids.drop xs.length)=match allM (fun f=>pr.mt bs lits f) ((F.kids.drop xs.length).take (RowS.many F xs tail)) with
  | none=>none
  | some rows=>oapp (some (rowH 0 (pr.vd lits 0) rows)) (Form.mts bs lits tail (F.kids.drop (xs.length+RowS.many F xs tail))):=by
 have h3:=hR.len
 have hl:(F.kids.drop xs.length).length=F.kids.length-xs.length:=List.length_drop
 have hN:(F.kids.drop xs.length).length+1-(dd::tail).length=RowS.many F xs tail:=by rw [hl,List.length_cons];unfold RowS.many;omega
 rw [Form.mts_eq,hR.row,cond_false,show zcq (dd::tail)=zM dd from rfl,hR.dots,cond_true,decide_eq_false (by rw [hl,List.length_cons];omega),cond_false,hN]
 cases allM (fun f=>pr.mt bs lits f) ((F.kids.drop xs.length).take (RowS.many F xs tail)) with
 | none=>rfl
 | some rows=>simp only;rw [Form.mts_eq bs lits dd,hR.dots,cond_true,List.drop_drop]
theorem match_j3_tr (hS:MatS bs lits P F) (hR:RowS P F xs pr dd tail) (acc:List Hit) (ha:acc.length≤2 ^ 18):Tr (fun m=>zb8 m bs P lits F ((xs.length+1:Nat):Int) acc) (oR (oacc acc (Form.mts bs lits (pr::dd::tail) (F.kids.drop xs.length)))):=by
 have h1:=RowS.lens hS hR
 have h2:=hR.plen
 have h3:=hR.len
 have hpm:=List.mem_of_getElem? hR.at_pr
 have hpp:PatS pr:=(hS.kid pr hpm).pat hR.row
 have hpw:=Form.ws_mem hpm
 have hwp:=hS.wp
 have hvd:=Form.vd_len lits pr 0
 have hhi:=Form.vd_hi lits pr 0
 have hnn:=Form.vd_nn lits pr 0
 refine Tr.step (fun m=>by rw [zb8,RowS.row_eq hS hR,zL hR.at_pr,Option.bind_some]) (Tr.bind (varsOf_tr pr lits (by omega)) ?_)
 have hvw:∀ v∈pr.vd lits 0,v.1.w≤2 ^ 30:=fun v hv=>by
  have hm:v.1∈pr.vs lits:=by rw [← Form.vd_fst lits pr 0];exact List.mem_map.2 ⟨v,hv,rfl⟩
  have:=Form.vs_w lits pr v.1 hm;omega
 refine match_l6_tr (bs:=bs) (lits:=lits) (P:=P) (F:=F) _ acc (pr.vd lits 0) hvw (fun v hv=>⟨hnn v hv,by have:=hhi v hv;omega⟩) (by omega) ?_
 have hsub:sub F.kids ((xs.length:Nat):Int) ((xs.length+RowS.many F xs tail:Nat):Int)=some ((F.kids.drop xs.length).take (RowS.many F xs tail)):=by
  have hle:xs.length+RowS.many F xs tail≤F.kids.length:=by unfold RowS.many;omega
  unfold sub
  rw [decide_eq_true (by omega),decide_eq_true (by omega),decide_eq_true (by omega)]
  simp only [Bool.and_self,cond_true,Int.toNat_natCast,Option.some.injEq]
  rw [List.take_drop]
 have hbnd:RowS.many F xs tail≤F.kids.length:=by unfold RowS.many;omega
 refine Tr.step (fun m=>by rw [zb7,RowS.row_eq hS hR,RowS.many_eq hS hR,zaM (n:=((xs.length:Nat):Int)+((RowS.many F xs tail:Nat):Int)) (by omega),show ((xs.length:Nat):Int)+((RowS.many F xs tail:Nat):Int)=((xs.length+RowS.many F xs tail:Nat):Int) by simp,hsub,Option.bind_some]) ?_
 have hj7:∀ rows:List (List Hit),Tr (fun m=>zbT m bs P lits F ((xs.length+1:Nat):Int) acc (rowH 0 (pr.vd lits 0) rows)) (oR (oacc (acc++rowH 0 (pr.vd lits 0) rows) (Form.mts bs lits tail (F.kids.drop (xs.length+RowS.many F xs tail))))):=fun rows=>by
  have hrl:=zfa (pr.vd lits 0) 0 rows
  refine Tr.step (fun m=>by rw [zbT]) (Tr.chk (decide_eq_true (by omega)) ?_)
  have htw:Form.ws tail≤Form.ws P.kids:=by
   rw [hR.eq,Form.ws_append,Form.ws,Form.ws];omega
  have:=match_l10_tr hS hR tail 0 (acc++rowH 0 (pr.vd lits 0) rows) (by rw [List.drop_zero]) (Nat.zero_le _) (by rw [List.length_append,hrl];omega)
  refine Tr.eq (fun m=>by rw [zaM (by omega),zcj]) ?_
  exact this
 have h8:=match_l8_tr hS hR acc ((F.kids.drop xs.length).take (RowS.many F xs tail)) (fun f hf=>List.mem_of_mem_drop (List.mem_of_mem_take hf)) (by rw [List.length_take,List.length_drop];omega)
  (fun hits=>oR (oacc (acc++hits) (Form.mts bs lits tail (F.kids.drop (xs.length+RowS.many F xs tail))))) (fun rows _ _=>hj7 rows)
 rw [mts_row hS hR]
 cases ha:allM (fun f=>pr.mt bs lits f) ((F.kids.drop xs.length).take (RowS.many F xs tail)) with
 | none=>rw [ha] at h8;exact h8
 | some rows=>rw [ha] at h8;simp only;rw [oR_some];exact h8
theorem match_l4_tr (hS:MatS bs lits P F) (hR:RowS P F xs pr dd tail):∀ (rest:List Form) (k:Nat) (acc:List Hit),xs.drop k=rest→k≤xs.length→acc.length+Form.ws rest≤2 ^ 18 →
  Tr (fun m=>zbx m bs P lits F ((xs.length+1:Nat):Int) (k:Int) acc) (oR (oacc acc (Form.mts bs lits (rest++pr::dd::tail) (F.kids.drop k))))
 | [],k,acc,hd,hk,ha=>by
   have:k=xs.length:=by have:=congrArg List.length hd;rw [List.length_drop] at this;simp at this;omega
   subst this
   rw [List.nil_append]
   exact Tr.step (fun m=>by rw [zbx,RowS.row_eq hS hR,zad,cond_false]) (match_j3_tr hS hR acc (by omega))
 | x::rest,k,acc,hd,hk,ha=>by
   obtain ⟨hx0,hd2,hlt⟩:=drop_cons' hd
   have h1:=RowS.lens hS hR
   have h2:=hR.plen
   have h3:=hR.len
   have hx:P.kids[k]?=some x:=by rw [hR.eq,List.getElem?_append_left hlt];exact hx0
   have hdx:=hR.pre x (List.mem_of_getElem? hx0)
   have hy:F.kids[k]?=some F.kids[k]:=List.getElem?_eq_getElem (by omega)
   have hdr:F.kids.drop k=F.kids[k]::F.kids.drop (k+1):=List.drop_eq_getElem_cons (by omega)
   have hnd:zcq (rest++pr::dd::tail)=false:=by
    cases rest with
    | nil=>exact hR.row
    | cons z zs=>exact hR.pre z (by have:z∈xs.drop (k+1):=by rw [hd2];simp
                                    exact List.mem_of_mem_drop this)
   rw [Form.ws] at ha
   refine Tr.step (fun m=>by rw [zbx,RowS.row_eq hS hR,ltN hlt,cond_true,zL hx,Option.bind_some,zL hy,Option.bind_some]) ?_
   refine Tr.bind (match1_tr hS (List.mem_of_getElem? hx) hdx (List.mem_of_getElem? hy) (by omega)) ?_
   rw [hdr,List.cons_append,mts_one hdx hnd]
   cases hm:x.mt bs lits F.kids[k] with
   | none=>rw [oR_none];exact Tr.tt rfl Tr.val
   | some h =>
     rw [oR_some]
     have hw:=mt_length hS (List.mem_of_getElem? hx) hdx hm
     exact Tr.ff rfl (Tr.eq (fun m=>by rw [zaM (by omega),zcj];rfl) (match_l4_tr hS hR rest (k+1) (acc++h) hd2 hlt (by rw [List.length_append];omega)))
end
theorem implMatch_n (bs:List Bind) (lits:List Form) (hbs:bs.length≤2 ^ 36) (hbf:∀ b∈bs,b.fit) (hbv:bvOk bs=true):∀ (n:Nat) (p:Form),p.w≤n→PatS p→p.fit→p.w≤2 ^ 17→∀ f:Form,f.valid=true→f.fit→f.w≤2 ^ 17 →
  Tr (fun m=>zcg m bs p lits f) (oR (p.mt bs lits f)):=by
 intro n
 induction n with
 | zero=>intro p h;have:=p.w_kids;omega
 | succ n ih =>
   intro p hp hs hpf hpb f hfv hff hfb
   have hw:=p.w_kids
   have hfw:=f.w_kids
   obtain ⟨q1,q2,q3,q4,q5⟩:=hs.parts
   refine Tr.step (fun m=>by rw [zcg]) ?_
   rw [Form.mt_eq]
   by_cases h1:p.kind=1
   ·rw [decide_eq_true h1,cond_true]
    refine Tr.tt rfl ?_
    by_cases h2:p.name=zgd
    ·rw [decide_eq_true h2,cond_true]
     exact Tr.tt rfl Tr.val
    ·rw [decide_eq_false h2,cond_false]
     refine Tr.ff rfl (Tr.bind (isIn_tr lits p) ?_)
     cases inF lits p with
     | true =>
       refine Tr.tt rfl (Tr.bind (sameRef_tr bs p f hbs hbf hpf hff) ?_)
       rw [cond_true,hbv,Bool.true_and]
       have hnp:isNm p=true:=by
        unfold isNm;rw [decide_eq_true h1,Bool.true_and]
        obtain ⟨d,hd⟩:=hs.ok
        exact (isOk_name hd h1).1
       have hnf:isNm f=decide (f.kind=1):=by unfold isNm;rw [hfv,Bool.and_true]
       rw [hnp,Bool.true_and,hnf]
       cases decide (f.kind=1)&&refS bs p f<;>exact Tr.val
     | false =>
       refine Tr.ff rfl (Tr.bind (copyForm_tr p (by omega)) (Tr.bind (copyForm_tr f (by omega)) ?_))
       rw [cond_false];exact Tr.val
   ·rw [decide_eq_false h1,cond_false]
    refine Tr.ff rfl ?_
    by_cases h2:p.kind=2
    ·rw [decide_eq_true h2,cond_true]
     refine Tr.tt rfl (Tr.bind (implFormSame_tr p f) ?_)
     cases same p f<;>exact Tr.val
    ·rw [decide_eq_false h2,cond_false]
     refine Tr.ff rfl ?_
     by_cases h3:f.kind≠3
     ·rw [decide_eq_true h3,cond_true];exact Tr.tt rfl Tr.val
     ·rw [decide_eq_false h3,cond_false]
      refine Tr.ff rfl (Tr.bind (dotsAt_tr p.kids) ?_)
      have hl1:=Form.ws_len p.kids
      have hl2:=Form.ws_len f.kids
      have hS:MatS bs lits p f:=⟨q4,fun x hx hd g hg=>ih x (by have:=Form.ws_mem hx;omega) ((q4 x hx).pat hd) (Form.fits_mem hpf.parts.2.2.2 hx) (by have:=Form.ws_mem hx;omega) g (valid_kid hfv hg) (Form.fits_mem hff.parts.2.2.2 hg) (by have:=Form.ws_mem hg;omega),by omega,by omega⟩
      have hacc:∀ o:Option (List Hit),oacc [] o=o:=fun o=>by cases o<;>simp [oacc]
      rcases cntD_split q3 with hno | ⟨ys,dd,tail,he,e1,e2,e3⟩
      ·rw [fnd_no hno]
       refine Tr.tt rfl ?_
       by_cases hlen:p.kids.length=f.kids.length
       ·refine Tr.ff (lenE hlen) ?_
        have:=match_l2_tr hS hlen p.kids 0 [] (by rw [List.drop_zero]) (Nat.zero_le _) hno (by simp;omega)
        rw [hacc,List.drop_zero] at this
        exact this
       ·refine Tr.tt (decide_eq_true (by omega)) ?_
        have hmn:Form.mts bs lits p.kids f.kids=none:=by
         cases hm:Form.mts bs lits p.kids f.kids with
         | none=>rfl
         | some h =>
           exact absurd ((mts_len hm).1 (cntD_all hno)) hlen
        rw [hmn];exact Tr.val
      ·obtain ⟨zs,pr,hz⟩:∃ zs pr,ys=zs++[pr]:=by
        rcases List.eq_nil_or_concat ys with h0 | ⟨zs,pr,h0⟩
        ·subst h0
         rw [he,List.nil_append,Form.kP,e2] at q2
         simp at q2
        ·exact ⟨zs,pr,by simpa using h0⟩
       subst hz
       have hat:fnd zM p.kids 0=((zs.length+1:Nat):Int):=by
        rw [he,fnd_pre e1 e2];simp
       rw [hat]
       have hpk:p.kids=zs++pr::dd::tail:=by rw [he,List.append_assoc];rfl
       have hplen:p.kids.length=zs.length+2+tail.length:=by rw [hpk];simp;omega
       refine Tr.ff (decide_eq_false (by omega)) ?_
       by_cases hlen:zs.length+tail.length≤f.kids.length
       ·have hR:RowS p f zs pr dd tail:=⟨hpk,fun x hx=>e1 x (by simp [hx]),e1 pr (by simp),e2,e3,hlen⟩
        refine Tr.ff (decide_eq_false (by rw [RowS.many_eq hS hR];omega)) ?_
        have hzw:Form.ws zs≤Form.ws p.kids:=by rw [hpk,Form.ws_append];omega
        have:=match_l4_tr hS hR zs 0 [] (by rw [List.drop_zero]) (Nat.zero_le _) (by simp;omega)
        rw [hacc,List.drop_zero,← hpk] at this
        exact this
       ·refine Tr.tt (decide_eq_true (by rw [zaM (n:=(p.kids.length:Int)-2) (by omega),zaM (by omega)];omega)) ?_
        have hmn:Form.mts bs lits p.kids f.kids=none:=by
         cases hm:Form.mts bs lits p.kids f.kids with
         | none=>rfl
         | some h =>
           have hc:cntD p.kids=1:=by
            rw [he,cntD_app,cntD_all e1,cntD,e2,cntD_all e3];rfl
           have hnd:zcq p.kids=false:=by
            rw [hpk]
            cases zs with
            | nil=>exact e1 pr (by simp)
            | cons z zs=>exact e1 z (by simp)
           have:=(mts_len hm).2.2 hc hnd
           omega
        rw [hmn];exact Tr.val
end Go.Abs
end
section
set_option linter.unusedVariables false
set_option linter.unusedSimpArgs false
namespace Go.Abs
theorem implMatchPattern_tr (bs:List Bind) (p:Form) (lits:List Form) (f:Form) (hb:∀ b∈bs,b.fit) (hbl:bs.length≤2 ^ 36) (hp:p.fit) (hpw:p.w≤2 ^ 17) (hl:Form.fits lits) (hf:f.fit) (hfw:f.w≤2 ^ 17) :
  Tr (fun m=>zan m bs p lits f) (zfj bs p lits f):=by
 refine Tr.eq (fun m=>by unfold zan;rfl) (Tr.bind (zdO bs (by omega) hb) ?_)
 unfold zfj
 have no:Tr (fun m=>zF m bs p lits f true) (([]:List Hit),false):=Tr.step (fun m=>by rw [zF];rfl) Tr.val
 cases hbv:bvOk bs with
 | false=>exact Tr.tt rfl no
 | true =>
 refine Tr.ff rfl (Tr.bind (zfg p lits hp (by omega) hl) ?_)
 cases hpo:patOk p lits with
 | false=>exact Tr.tt rfl no
 | true =>
 refine Tr.ff rfl (Tr.bind (ze9 f hf) ?_)
 cases hfv:f.valid with
 | false=>exact no
 | true =>
 refine Tr.step (fun m=>by rw [zF,Bool.not_true,cond_false]) ?_
 rw [Bool.true_and,Bool.true_and,cond_true]
 refine Tr.bind (implMatch_n bs lits hbl hb hbv _ p (Nat.le_refl _) (patOk_S hpo) hp hpw f hfv hf hfw) ?_
 cases hm:p.mt bs lits f with
 | none=>exact Tr.tt rfl Tr.val
 | some h=>exact Tr.ff rfl Tr.val
theorem matchP_cases (bs:List Bind) (p:Form) (lits:List Form) (f:Form):zfj bs p lits f=([],false)∨∃ h,bvOk bs=true∧patOk p lits=true∧f.valid=true∧p.mt bs lits f=some h∧zfj bs p lits f=(h,true):=by
 unfold zfj
 cases hb:(bvOk bs&&(patOk p lits&&f.valid)) with
 | false=>exact .inl rfl
 | true =>
   simp only [Bool.and_eq_true] at hb
   cases hm:p.mt bs lits f with
   | none=>exact .inl rfl
   | some h=>exact .inr ⟨h,hb.1,hb.2.1,hb.2.2,rfl,rfl⟩
end Go.Abs
end
section
set_option linter.unusedVariables false
set_option linter.unusedSimpArgs false
namespace Go.Abs
theorem PatS.kind {p:Form} (h:PatS p) (h1:¬ p.kind=1) (h2:¬ p.kind=2):p.kind=3:=by
 obtain ⟨d,hd⟩:=h.ok
 rw [Form.isOk_eq] at hd
 cases hd0:decide (d=0) with
 | true=>rw [hd0] at hd;cases hd
 | false =>
   rw [hd0,cond_false,decide_eq_false h1,cond_false,decide_eq_false h2,cond_false,Bool.and_eq_true,decide_eq_true_eq] at hd
   exact hd.1
theorem cnt_eq (f:Form):f.cnt=1+Form.cnts f.kids:=by obtain ⟨a,b,c,d,e⟩:=f;rw [Form.cnt];rfl
end Go.Abs
end
section
set_option linter.unusedVariables false
set_option linter.unusedSimpArgs false
namespace Go.Abs
theorem isOk_w:∀ (n:Nat) (f:Form),f.w≤n→∀ d,f.isOk d=true→f.w+1≤26*f.cnt:=by
 intro n
 induction n with
 | zero=>intro f h;have:=f.w_kids;omega
 | succ n ih =>
   intro f hn d hd
   have hw:=f.w_kids
   have hc:=cnt_eq f
   obtain ⟨k1,k2⟩:=zf5 hd
   have hsc:f.scopes.length≤24:=by
    rw [Form.isOk_eq] at hd
    cases hd0:decide (d=0) with
    | true=>rw [hd0] at hd;cases hd
    | false =>
    rw [hd0,cond_false] at hd
    by_cases h1:f.kind=1
    ·rw [decide_eq_true h1,cond_true] at hd
     unfold scOk at hd
     simp only [Bool.and_eq_true,decide_eq_true_eq] at hd
     omega
    ·rw [decide_eq_false h1,cond_false] at hd
     by_cases h2:f.kind=2
     ·rw [decide_eq_true h2,cond_true] at hd
      simp only [Bool.and_eq_true,decide_eq_true_eq] at hd
      omega
     ·rw [decide_eq_false h2,cond_false] at hd
      simp only [Bool.and_eq_true,decide_eq_true_eq] at hd
      omega
   have hk:Form.ws f.kids≤26*Form.cnts f.kids:=by
    have:∀ l:List Form,(∀ x∈l,x∈f.kids)→Form.ws l≤26*Form.cnts l:=by
     intro l
     induction l with
     | nil=>intro _;rw [Form.ws];omega
     | cons x l ihl =>
       intro hx
       have h1:=ihl (fun y hy=>hx y (by simp [hy]))
       have hm:=hx x (by simp)
       have h2:=Form.ws_mem hm
       have h3:=ih x (by omega) _ (k2 x hm)
       rw [Form.cnts,Form.ws];omega
    exact this _ (fun x hx=>hx)
   omega
theorem valid_w {f:Form} (h:f.valid=true):f.w≤10400:=by
 unfold Form.valid at h
 rw [Bool.and_eq_true,decide_eq_true_eq] at h
 have:=isOk_w _ f (Nat.le_refl _) 40 h.1
 omega
theorem patOk_w {p:Form} {lits:List Form} (h:patOk p lits=true):p.w≤10400:=by
 unfold patOk at h
 rw [Bool.and_eq_true] at h
 exact valid_w h.1
structure RulesF (rules:List Rule):Prop where
 fit:∀ r∈rules,r.fit
 pw:∀ r∈rules,r.pattern.w≤2 ^ 36
 tw:∀ r∈rules,r.template.w≤2 ^ 36
theorem eqForm_self (f:Form):Tr (fun m=>zbm m f f) true:=by have:=eqForm_tr f f;rwa [zfn] at this
theorem eqFormS_self (l:List Form):Tr (fun m=>zct m l l) true:=by have:=eqFormS_tr l l;rwa [zfn] at this
end Go.Abs
end
section
set_option linter.unusedVariables false
set_option linter.unusedSimpArgs false
namespace Go.Abs
noncomputable def deepB (x:Form) (h:Hit):Bool:=Form.part h.name x&&!decide (h.depth=0)
noncomputable def nthR (x:Form) (n:Nat) (hs:List Hit):List Hit:=hs.map fun h=>bif deepB x h then h.many.getD n hit0 else h
def DepR (l:List (Form × Int)) (v:Nat) (hs:List Hit) (x:Form):Prop:=∀ g,Form.part g x=true→(0 < dep l g-v∨0 < dep (nd hs) g)→dep (nd hs) g=dep l g-v
structure FillS (l:List (Form × Int)) (v:Nat) (hs:List Hit) (x:Form):Prop where
 hv:hvOk hs=true
 rws:x.rws l v=true
 ok:∃ d,x.isOk d=true
 R:DepR l v hs x
theorem part_self (x:Form):Form.part x x=true:=by rw [Form.part_eq,zfn,Bool.true_or]
theorem part_kid {g x f:Form} (hx:x∈f.kids) (h:Form.part g x=true):Form.part g f=true:=by
 rw [Form.part_eq,parts_mem hx h,Bool.or_true]
theorem kR_kid {l:List (Form × Int)} {v:Nat}:∀ {zs:List Form} {i:Nat} {x:Form},Form.kR l v zs=true→zs[i]?=some x→zM x=false→bif zcq (zs.drop (i+1)) then x.anyD l v=true∧x.rws l (v+1)=true else x.rws l v=true
 | y::ys,0,x,h,hx,hd=>by
   simp at hx;subst hx
   rw [Form.kR,Bool.and_eq_true,hd,cond_false] at h
   have h1:=h.1
   simp only [List.drop_succ_cons,List.drop_zero]
   cases hn:zcq ys with
   | true=>rw [hn,cond_true,Bool.and_eq_true] at h1;exact h1
   | false=>rw [hn,cond_false] at h1;exact h1
 | y::ys,i+1,x,h,hx,hd=>by
   rw [Form.kR,Bool.and_eq_true] at h
   have:=kR_kid (zs:=ys) (i:=i) (x:=x) h.2 (by simpa using hx) hd
   simpa using this
mutual
theorem anyD_ex {l:List (Form × Int)} {v:Int}:∀ f:Form,f.anyD l v=true→∃ g,Form.part g f=true∧v < dep l g
 | .mk a b c d e,h=>by
   rw [Form.anyD,Bool.or_eq_true] at h
   rcases h with h | h
   ·exact ⟨_,part_self _,of_decide_eq_true h⟩
   ·obtain ⟨g,h1,h2⟩:=anyDs_ex e h
    exact ⟨g,by rw [Form.part,h1,Bool.or_true],h2⟩
theorem anyDs_ex {l:List (Form × Int)} {v:Int}:∀ zs:List Form,Form.anyDs l v zs=true→∃ g,Form.parts g zs=true∧v < dep l g
 | [],h=>by rw [Form.anyDs] at h;cases h
 | x::xs,h=>by
   rw [Form.anyDs,Bool.or_eq_true] at h
   rcases h with h | h
   ·obtain ⟨g,h1,h2⟩:=anyD_ex x h
    exact ⟨g,by rw [Form.parts,h1,Bool.true_or],h2⟩
   ·obtain ⟨g,h1,h2⟩:=anyDs_ex xs h
    exact ⟨g,by rw [Form.parts,h1,Bool.or_true],h2⟩
end
theorem hvOk_all {hs:List Hit} (h:hvOk hs=true):(∀ x∈hs,x.isOk=true)∧hs.length≤20:=by
 unfold hvOk at h
 rw [Bool.and_eq_true,decide_eq_true_eq] at h
 refine ⟨?_,by omega⟩
 have:∀ {l ps:List Hit},hvF ps l=true→∀ x∈l,x.isOk=true:=by
  intro l
  induction l with
  | nil=>intro ps _ x hx;cases hx
  | cons y ys ih =>
    intro ps hv x hx
    rw [hvF,Bool.and_eq_true,Bool.and_eq_true] at hv
    rcases List.mem_cons.1 hx with rfl | hx
    ·exact hv.1
    ·exact ih hv.2.2 x hx
 exact this h.1
theorem isOk_hit {h:Hit} (hk:h.isOk=true):isNm h.name=true∧(0≤h.depth∧h.depth≤3)∧(h.depth=0→h.one.valid=true∧h.many=[])∧(h.depth≠0→h.many.length≤400∧∀ y∈h.many,y.name=h.name∧y.depth=h.depth-1∧y.isOk=true):=by
 rw [Hit.isOk_eq] at hk
 simp only [Bool.and_eq_true,decide_eq_true_eq] at hk
 obtain ⟨a,_,_,b,c⟩:=hk
 refine ⟨a,b,fun h0=>?_,fun h0=>?_⟩
 ·rw [decide_eq_true h0,cond_true,Bool.and_eq_true,decide_eq_true_eq] at c
  exact ⟨c.1,List.eq_nil_of_length_eq_zero (by omega)⟩
 ·rw [decide_eq_false h0,cond_false,Bool.and_eq_true,Bool.and_eq_true,decide_eq_true_eq] at c
  refine ⟨by omega,fun y hy=>?_⟩
  have:=zfG.1 c.2.2 y hy
  rw [Bool.and_eq_true,Bool.and_eq_true,decide_eq_true_eq] at this
  exact ⟨zfU.1 this.1,this.2.1,this.2.2⟩
theorem hv_name {hs:List Hit} (hv:hvOk hs=true) {h:Hit} (hm:h∈hs):dep (nd hs) h.name=h.depth:=by
 have hn:=(isOk_hit ((hvOk_all hv).1 h hm)).1
 unfold hvOk at hv
 rw [Bool.and_eq_true] at hv
 unfold isNm at hn
 rw [Bool.and_eq_true,decide_eq_true_eq] at hn
 unfold dep
 rw [decide_eq_false (by simp [hn.1]),cond_false]
 exact hv_dep hv.1 h hm
theorem depF_none {f:Form}:∀ {l:List Hit},(∀ h∈l,h.name≠f)→depF (nd l) f=-1
 | [],_=>rfl
 | x::xs,h=>by
   show depF ((x.name,x.depth)::nd xs) f=-1
   rw [depF,same_ne (h x (by simp)),cond_false,depF_none (fun y hy=>h y (by simp [hy]))]
theorem dep_cases {hs:List Hit} (hv:hvOk hs=true) (g:Form):(∃ h∈hs,h.name=g∧dep (nd hs) g=h.depth)∨((∀ h∈hs,h.name≠g)∧dep (nd hs) g=-1):=by
 by_cases hx:∃ h∈hs,h.name=g
 ·obtain ⟨h,hm,rfl⟩:=hx
  exact .inl ⟨h,hm,rfl,hv_name hv hm⟩
 ·have hn:∀ h∈hs,h.name≠g:=fun h hm he=>hx ⟨h,hm,he⟩
  refine .inr ⟨hn,?_⟩
  unfold dep
  cases decide (g.kind≠1) with
  | true=>rfl
  | false=>rw [cond_false];exact depF_none hn
theorem FillS.kid {l:List (Form × Int)} {v:Nat} {hs:List Hit} {f x:Form} (hF:FillS l v hs f) {i:Nat} (hx:f.kids[i]?=some x) (hd:zM x=false) (hn:zcq (f.kids.drop (i+1))=false):FillS l v hs x:=by
 have hm:=List.mem_of_getElem? hx
 have hr:=hF.rws
 rw [Form.rws_eq,Bool.and_eq_true] at hr
 have:=kR_kid hr.2 hx hd
 rw [hn,cond_false] at this
 obtain ⟨d,hok⟩:=hF.ok
 exact ⟨hF.hv,this,⟨_,(zf5 hok).2 x hm⟩,fun g hg=>hF.R g (part_kid hm hg)⟩
theorem many_mem {h:Hit} {n:Nat} (hn:n < h.many.length):h.many.getD n hit0∈h.many:=by
 rw [List.getD_eq_getElem?_getD,List.getElem?_eq_getElem hn];exact List.getElem_mem hn
theorem nthR_names {x:Form} {n:Nat}:∀ {hs:List Hit},(∀ h∈hs,h.isOk=true)→(∀ h∈hs,deepB x h=true→n < h.many.length)→(nthR x n hs).map Hit.name=hs.map Hit.name
 | [],_,_=>rfl
 | h::hs,hk,hn=>by
   have ih:=nthR_names (x:=x) (n:=n) (hs:=hs) (fun y hy=>hk y (by simp [hy])) (fun y hy=>hn y (by simp [hy]))
   show (bif deepB x h then h.many.getD n hit0 else h).name::(nthR x n hs).map Hit.name=h.name::hs.map Hit.name
   rw [ih]
   cases hd:deepB x h with
   | false=>rfl
   | true =>
     rw [cond_true]
     have h0:h.depth≠0:=by
      unfold deepB at hd
      rw [Bool.and_eq_true,Bool.not_eq_true',decide_eq_false_iff_not] at hd
      exact hd.2
     rw [(((isOk_hit (hk h (by simp))).2.2.2 h0).2 _ (many_mem (hn h (by simp) hd))).1]
theorem hvF_dist:∀ {l ps:List Hit},hvF ps l=true→distF (ps.map Hit.name) (l.map Hit.name)=true
 | [],ps,_=>rfl
 | x::xs,ps,h=>by
   rw [hvF,Bool.and_eq_true,Bool.and_eq_true] at h
   have ih:=hvF_dist h.2.2
   rw [List.map_append] at ih
   rw [List.map_cons,distF]
   have h1:inF (ps.map Hit.name) x.name=false:=by
    unfold inF
    rw [zfG.2 (fun y hy=>?_)]
    ·rfl
    ·obtain ⟨z,hz,rfl⟩:=List.mem_map.1 hy
     exact zfG.1 h.2.1 z hz
   rw [h1];simpa using ih
theorem nthR_hv {x:Form} {n:Nat} {hs:List Hit} (hv:hvOk hs=true) (hn:∀ h∈hs,deepB x h=true→n < h.many.length):hvOk (nthR x n hs)=true:=by
 obtain ⟨h1,h2⟩:=hvOk_all hv
 have hnm:=nthR_names h1 hn
 unfold hvOk at hv ⊢
 rw [Bool.and_eq_true] at hv ⊢
 refine ⟨hvF_of (fun y hy=>?_) ?_,?_⟩
 ·obtain ⟨h,hm,rfl⟩:=List.mem_map.1 hy
  cases hd:deepB x h with
  | false=>exact h1 h hm
  | true =>
    rw [cond_true]
    have h0:h.depth≠0:=by
     unfold deepB at hd
     rw [Bool.and_eq_true,Bool.not_eq_true',decide_eq_false_iff_not] at hd
     exact hd.2
    exact (((isOk_hit (h1 h hm)).2.2.2 h0).2 _ (many_mem (hn h hm hd))).2.2
 ·rw [hnm];exact hvF_dist hv.1
 ·have:(nthR x n hs).length=hs.length:=by unfold nthR;rw [List.length_map]
  rw [this];exact hv.2
theorem FillS.row {l:List (Form × Int)} {v:Nat} {hs:List Hit} {f x:Form} (hF:FillS l v hs f) {i:Nat} (hx:f.kids[i]?=some x) (hd:zM x=false) (hn:zcq (f.kids.drop (i+1))=true) :
  (∃ h∈hs,deepB x h=true)∧∀ n,(∀ h∈hs,deepB x h=true→n < h.many.length)→FillS l (v+1) (nthR x n hs) x:=by
 have hm:=List.mem_of_getElem? hx
 have hr:=hF.rws
 rw [Form.rws_eq,Bool.and_eq_true] at hr
 have hk:=kR_kid hr.2 hx hd
 rw [hn,cond_true] at hk
 obtain ⟨d,hok⟩:=hF.ok
 refine ⟨?_,fun n hlen=>⟨nthR_hv hF.hv hlen,hk.2,⟨_,(zf5 hok).2 x hm⟩,fun g hg hpos=>?_⟩⟩
 ·obtain ⟨g,h1,h2⟩:=anyD_ex x hk.1
  have hR:=hF.R g (part_kid hm h1) (.inl (by omega))
  rcases dep_cases hF.hv g with ⟨h,hmem,rfl,he⟩ | ⟨_,he⟩
  ·refine ⟨h,hmem,?_⟩
   unfold deepB
   rw [h1,Bool.true_and,decide_eq_false (by omega)];rfl
  ·omega
 ·have hR:=hF.R g (part_kid hm hg)
  rcases dep_cases hF.hv g with ⟨h,hmem,rfl,he⟩ | ⟨hno,he⟩
  ·have hin:(bif deepB x h then h.many.getD n hit0 else h)∈nthR x n hs:=List.mem_map.2 ⟨h,hmem,rfl⟩
   have hok:=isOk_hit ((hvOk_all hF.hv).1 h hmem)
   by_cases h0:h.depth=0
   ·have hdp:deepB x h=false:=by unfold deepB;rw [decide_eq_true h0];simp
    rw [hdp,cond_false] at hin
    have:=hv_name (nthR_hv hF.hv hlen) hin
    rcases hpos with hp | hp
    ·have:=hR (.inl (by omega));omega
    ·omega
   ·have hdp:deepB x h=true:=by unfold deepB;rw [hg,decide_eq_false h0];rfl
    rw [hdp,cond_true] at hin
    have hnm:=(hok.2.2.2 h0).2 _ (many_mem (hlen h hmem hdp))
    have h2:=hv_name (nthR_hv hF.hv hlen) hin
    rw [hnm.1,hnm.2.1] at h2
    have:=hR (.inr (by have:=hok.2.1.1;omega))
    rw [h2];omega
  ·have h2:dep (nd (nthR x n hs)) g=-1:=by
    rcases dep_cases (nthR_hv hF.hv hlen) g with ⟨h',hmem',hnm',_⟩ | ⟨_,he'⟩
    ·have:h'.name∈(nthR x n hs).map Hit.name:=List.mem_map.2 ⟨h',hmem',rfl⟩
     rw [nthR_names (hvOk_all hF.hv).1 hlen] at this
     obtain ⟨h,hmem,hnm⟩:=List.mem_map.1 this
     exact absurd (hnm.trans hnm') (hno h hmem)
    ·exact he'
   rcases hpos with hp | hp
   ·have:=hR (.inl (by omega));omega
   ·omega
theorem FillS.leaf {l:List (Form × Int)} {v:Nat} {hs:List Hit} {x:Form} (hF:FillS l v hs x):hAt hs x=-1∨∃ i h,hAt hs x=((i:Nat):Int)∧hs[i]?=some h∧h.depth=0∧h.one.valid=true:=by
 rcases fnd_at (D:=fun y:Hit=>same y.name x) (l:=hs) (k:=0) with ⟨h1,_⟩ | ⟨i,h,h1,h2,h3,_⟩
 ·exact .inl h1
 ·have hm:=List.mem_of_getElem? h2
  have hn:h.name=x:=zfU.1 h3
  have hok:=isOk_hit ((hvOk_all hF.hv).1 h hm)
  have hd:=hv_name hF.hv hm
  rw [hn] at hd
  have hr:=hF.rws
  rw [Form.rws_eq,Bool.and_eq_true,Bool.not_eq_true',decide_eq_false_iff_not] at hr
  have h0:h.depth=0:=by
   by_cases hp:0 < h.depth
   ·have:=hF.R x (part_self x) (.inr (by omega));omega
   ·have:=hok.2.1.1;omega
  exact .inr ⟨i,h,by unfold hAt;rw [h1,Nat.zero_add],h2,h0,(hok.2.2.1 h0).1⟩
structure FormF (y:Form):Prop where
 ok:∃ d,y.isOk d=true
 cnt:y.cnt≤401
theorem FormF.w {y:Form} (h:FormF y):y.w≤10426:=by
 obtain ⟨d,hd⟩:=h.ok
 have:=isOk_w _ y (Nat.le_refl _) d hd
 have:=h.cnt;omega
end Go.Abs
end
section
set_option linter.unusedVariables false
set_option linter.unusedSimpArgs false
namespace Go.Abs
theorem kD_prev:∀ {zs:List Form} {pd sn:Bool} {i:Nat} {x:Form},Form.kD false pd sn zs=true→zs[i]?=some x→zM x=true→(i=0∧pd=false)∨∃ j y,i=j+1∧zs[j]?=some y∧zM y=false
 | z::zs,pd,sn,0,x,h,hx,hd=>by
   simp at hx;subst hx
   rw [Form.kD,hd,cond_true,Bool.and_eq_true,Bool.and_eq_true,Bool.not_eq_true'] at h
   exact .inl ⟨rfl,h.1.1⟩
 | z::zs,pd,sn,i+1,x,h,hx,hd=>by
   rw [Form.kD,Bool.and_eq_true] at h
   rcases kD_prev (zs:=zs) (i:=i) h.2 (by simpa using hx) hd with ⟨rfl,h2⟩ | ⟨j,y,rfl,hy,hyd⟩
   ·exact .inr ⟨0,z,rfl,rfl,h2⟩
   ·exact .inr ⟨j+1,y,rfl,by simpa using hy,hyd⟩
theorem FillS.plain {l:List (Form × Int)} {v:Nat} {hs:List Hit} {f:Form} (hF:FillS l v hs f) (hd:f.dotsOk false=true) (hno:∀ h∈hs,Form.part h.name f=false):∀ x∈f.kids,zM x=false:=by
 intro x hx
 rw [Bool.eq_false_iff]
 intro hdx
 obtain ⟨i,hi⟩:=List.getElem?_of_mem hx
 rw [Form.dotsOk_eq] at hd
 rcases kD_prev hd hi hdx with ⟨_,h⟩ | ⟨j,y,rfl,hy,hyd⟩
 ·cases h
 ·have hnx:zcq (f.kids.drop (j+1))=true:=by
   rw [drop_get hi];exact hdx
  obtain ⟨⟨h,hm,hdp⟩,_⟩:=hF.row hy hyd hnx
  unfold deepB at hdp
  rw [Bool.and_eq_true] at hdp
  have:=part_kid (List.mem_of_getElem? hy) hdp.1
  rw [hno h hm] at this;cases this
end Go.Abs
end
section
set_option linter.unusedVariables false
set_option linter.unusedSimpArgs false
namespace Go.Abs
theorem mt_light {bs:List Bind} {p f:Form} {lits:List Form} {h:List Hit} (hp:patOk p lits=true) (hf:f.valid=true) (hm:p.mt bs lits f=some h):Hit.ws h≤2 ^ 30:=by
 have:=mt_w (patOk_S hp) hm
 have h1:=patOk_w hp
 have h2:=valid_w hf
 have h4:p.w*f.w≤10400*10400:=Nat.mul_le_mul h1 h2
 omega
section
variable (bs:List Bind) (rules:List Rule) (lits:List Form) (f:Form) (hb:∀ b∈bs,b.fit) (hbl:bs.length≤2 ^ 36) (hr:RulesF rules) (hl:Form.fits lits) (hf:f.fit)
include hb hbl hr hl hf
end
end Go.Abs
end
section
set_option linter.unusedVariables false
set_option linter.unusedSimpArgs false
set_option maxHeartbeats 4000000
namespace Go.Abs
section
variable {α:Type}
theorem zgp (d:List α) (x:α) (xs:List α):decide ((d.length:Int) < ((d++x::xs).length:Int))=true:=by simp;omega
theorem zgq (d:List α):decide ((d.length:Int) < ((d++[]).length:Int))=false:=by simp
theorem zfQ (d:List α) (x:α) (xs:List α):idx (d++x::xs) (d.length:Int)=some x:=zL (by simp)
theorem mk_set_mid (d:List α) (x y:α) (xs:List α):(d++x::xs).set ((d.length:Int)).toNat y=d++y::xs:=by simp
theorem zef (d:List α) (y:α) (xs:List α):d++y::xs=(d++[y])++xs:=by simp
theorem mk_mid_len (d:List α) (y:α):(d.length:Int)+1=((d++[y]).length:Int):=by simp
theorem mk_mid_lenw (d:List α) (y:α) (h:d.length≤4611686018427387904):w64 ((d.length:Int)+1)=((d++[y]).length:Int):=by
 rw [zaM (by omega)];simp
end
theorem zgJ {k:Int} (h0:0≤k) (h1:k≤4611686018427387904):w64 (k+1)=k+1:=zaM (by omega)
theorem za8 {α:Type} [DecidableEq α] (x:α):decide (x≠x)=false:=by simp
theorem zc5 {k:Int} (h:0≤k):decide (k < 0)=false:=by simpa using h
theorem markText_loop:∀ (n:Nat) (k:Nat) (s:ByteArray),k < 2 ^ n→s.size+n≤1000→n≤63→∃ t,Tr (fun m=>zbl m (k:Int) s) t:=by
 intro n
 induction n with
 | zero =>
   intro k s hk hs hn
   have:k=0:=by omega
   subst this
   refine ⟨(⟨#[109]⟩:ByteArray)++s,Tr.step (fun m=>by rw [zbl,show decide ((0:Int) < ((0:Nat):Int))=false from rfl,cond_false]) (Tr.of fun m=>?_)⟩
   ·rw [bcat,decide_eq_true (by have:(⟨#[109]⟩:ByteArray).size=1:=rfl;omega)];rfl
 | succ n ih =>
   intro k s hk hs hn
   by_cases h0:k=0
   ·subst h0
    refine ⟨(⟨#[109]⟩:ByteArray)++s,Tr.step (fun m=>by rw [zbl,show decide ((0:Int) < ((0:Nat):Int))=false from rfl,cond_false]) (Tr.of fun m=>?_)⟩
    ·rw [bcat,decide_eq_true (by have:(⟨#[109]⟩:ByteArray).size=1:=rfl;omega)];rfl
   ·have hk2:k / 10 < 2 ^ n:=by rw [Nat.pow_succ] at hk;omega
    have hp:(2:Nat) ^ (n+1)≤2 ^ 63:=Nat.pow_le_pow_right (by omega) (by omega)
    have hsz:(strOf [(w8 (w64 (48+((k:Int).tmod 10))))]).size=1:=rfl
    have hsz2:(strOf [(w8 (w64 (48+((k:Int).tmod 10))))]++s).size=1+s.size:=by rw [ByteArray.size_append,hsz]
    obtain ⟨t,ht⟩:=ih (k / 10) (strOf [(w8 (w64 (48+((k:Int).tmod 10))))]++s) hk2 (by rw [hsz2];omega) (by omega)
    refine ⟨t,Tr.step (fun m=>by rw [zbl,decide_eq_true (show (0:Int) < (k:Int) by omega),cond_true,bcat,decide_eq_true (by rw [hsz];omega),cond_true,Option.bind_some]) ?_⟩
    refine Tr.eq (fun m=>?_) ht
    have:w64 ((k:Int).tdiv 10)=((k / 10:Nat):Int):=by
     rw [show ((k:Int).tdiv 10)=((k / 10:Nat):Int) from rfl,zaM (by omega)]
    rw [this]
theorem zhh {k:Int} (h0:0≤k) (h1:k≤4611686018427387905):∃ t,Tr (fun m=>za1 m k) t:=by
 by_cases hk:k≤0
 ·exact ⟨_,Tr.of fun m=>by rw [za1,decide_eq_true hk];rfl⟩
 ·obtain ⟨n,rfl⟩:=Int.eq_ofNat_of_zero_le h0
  obtain ⟨t,ht⟩:=markText_loop 63 n ⟨#[]⟩ (by omega) (by decide) (Nat.le_refl _)
  exact ⟨t,Tr.eq (fun m=>by rw [za1,decide_eq_false hk,cond_false]) ht⟩
def MH {α:Type} (M:Nat→List α→Int→Option (Int × List α)) (H:Nat→List α→Int→Option Int) (l:List α) (b:Nat):Prop :=
 ∀ k:Int,0≤k→k+b≤4611686018427387904→∃ v ys,Tr (fun m=>M m l k) (v,ys)∧k≤v∧v≤k+b∧Tr (fun m=>H m ys k) v
theorem markInt_loop:∀ (xs d:List Int) (k:Int),0≤k→k+xs.length≤4611686018427387904→∃ v ys,Tr (fun m=>zbK m k (d.length:Int) (d++xs)) (v,d++ys)∧k≤v∧v≤k+xs.length∧∀ d':List Int,Tr (fun m=>zbM m (d'++ys) k (d'.length:Int)) v
 | [],d,k,h0,h1=>⟨k,[],Tr.step (fun m=>by rw [zbK,zgq,cond_false]) Tr.val,Int.le_refl _,by omega,fun d'=>Tr.step (fun m=>by rw [zbM,zgq,cond_false]) Tr.val⟩
 | x::xs,d,k,h0,h1=>by
   rw [List.length_cons] at h1
   obtain ⟨v,ys,a1,a2,a3,a4⟩:=markInt_loop xs (d++[k]) (k+1) (by omega) (by omega)
   refine ⟨v,k::ys,?_,by omega,by rw [List.length_cons];omega,fun d'=>?_⟩
   ·refine Tr.step (fun m=>by rw [zbK,zgp,cond_true,zfQ,Option.bind_some,mk_set_mid]) ?_
    refine Tr.eq (fun m=>?_) (zef d k ys ▸ a1)
    rw [zgJ h0 (by omega),mk_mid_len d k,zef d k xs]
   ·refine Tr.step (fun m=>by rw [zbM,zgp,cond_true,zfQ,Option.bind_some,za8,cond_false]) ?_
    refine Tr.eq (fun m=>?_) (a4 (d'++[k]))
    rw [zgJ h0 (by omega),mk_mid_len d' k,zef d' k ys]
theorem mhInt (l:List Int):MH zb5 zcy l l.length:=fun k h0 h1=>by
 obtain ⟨v,ys,a1,a2,a3,a4⟩:=markInt_loop l [] k h0 h1
 exact ⟨v,ys,Tr.eq (fun m=>by unfold zb5;rfl) a1,a2,a3,Tr.eq (fun m=>by unfold zcy;rfl) (a4 [])⟩
theorem zhi:∀ (xs d:List Form) (k:Int),(∀ x∈xs,MH zax zaL x.kids (3*Form.ws x.kids))→d.length+xs.length≤4611686018427387904→0≤k→k+(3*Form.ws xs:Nat)≤4611686018427387904 →
  ∃ v ys,Tr (fun m=>zbu m k (d.length:Int) (d++xs)) (v,d++ys)∧k≤v∧v≤k+(3*Form.ws xs:Nat)∧∀ d':List Form,Tr (fun m=>zbw m (d'++ys) k (d'.length:Int)) v
 | [],d,k,ih,hl,h0,h1=>⟨k,[],Tr.step (fun m=>by rw [zbu,zgq,cond_false]) Tr.val,Int.le_refl _,by omega,fun d'=>Tr.step (fun m=>by rw [zbw,zgq,cond_false]) Tr.val⟩
 | .mk kd nm nn sc ks::xs,d,k,ih,hl,h0,h1=>by
   rw [Form.ws,Form.w] at h1
   rw [List.length_cons] at hl
   obtain ⟨t,ht⟩:=zhh (k:=k+1) (by omega) (by omega)
   obtain ⟨v1,a,b1,b2,b3,b4⟩:=mhInt sc (k+1+1+1) (by omega) (by omega)
   obtain ⟨v2,b,c1,c2,c3,c4⟩:=ih _ (List.mem_cons_self ..) v1 (by omega) (by show v1+(3*Form.ws ks:Nat)≤_;omega)
   have c3':v2≤v1+(3*Form.ws ks:Nat):=c3
   obtain ⟨v,ys,a1,a2,a3,a4⟩:=zhi xs (d++[.mk k t (k+1+1) a b]) v2 (fun x hx=>ih x (List.mem_cons_of_mem _ hx)) (by simp;omega) (by omega) (by omega)
   have e1:=zgJ h0 (by omega)
   have e2:=zgJ (k:=k+1) (by omega) (by omega)
   have e3:=zgJ (k:=k+1+1) (by omega) (by omega)
   refine ⟨v,.mk k t (k+1+1) a b::ys,?_,by omega,by rw [Form.ws,Form.w];omega,fun d'=>?_⟩
   ·refine Tr.step (fun m=>by rewrite [zbu];simp only [Form.kind,Form.name,Form.n,Form.scopes,Form.kids,zgp,cond_true,zfQ,Option.bind_some,mk_set_mid,e1,e2,e3];rfl) ?_
    refine Tr.bind ht ?_
    refine Tr.bind b1 ?_
    refine Tr.bind c1 ?_
    refine Tr.eq (fun m=>?_) (zef d (.mk k t (k+1+1) a b) ys ▸ a1)
    rw [← zef,← mk_mid_lenw _ _ (by omega)]
   ·refine Tr.step (fun m=>by rewrite [zbw];simp only [Form.kind,Form.name,Form.n,Form.scopes,Form.kids,zgp,cond_true,zfQ,Option.bind_some,e1,e2,e3];rfl) ?_
    refine Tr.ff (za8 k) ?_
    refine Tr.bind ht (Tr.ff (za8 t) (Tr.ff (za8 (k+1+1)) ?_))
    refine Tr.bind b4 (Tr.ff (zc5 (by omega)) ?_)
    refine Tr.bind c4 (Tr.ff (zc5 (by omega)) ?_)
    refine Tr.eq (fun m=>?_) (a4 (d'++[.mk k t (k+1+1) a b]))
    rw [← zef,← mk_mid_len]
theorem mhForm_n:∀ (n:Nat) (l:List Form),Form.ws l≤n→MH zax zaL l (3*Form.ws l):=by
 intro n
 induction n with
 | zero =>
   intro l hl k h0 h1
   have hx:=Form.ws_len l
   have:l=[]:=List.eq_nil_of_length_eq_zero (by omega)
   subst this
   obtain ⟨v,ys,a1,a2,a3,a4⟩:=zhi [] [] k (fun x hx=>by cases hx) (by simp) h0 h1
   exact ⟨v,ys,Tr.step (fun m=>by rw [zax];rfl) a1,a2,a3,Tr.step (fun m=>by rw [zaL];rfl) (a4 [])⟩
 | succ n ih =>
   intro l hl k h0 h1
   have hx:=Form.ws_len l
   obtain ⟨v,ys,a1,a2,a3,a4⟩:=zhi l [] k (fun x hx=>ih _ (by
    have:=Form.ws_mem hx
    obtain ⟨p1,p2,p3,p4,p5⟩:=x
    rw [Form.w] at this
    show Form.ws p5≤n
    omega)) (by simp only [List.length_nil];omega) h0 h1
   exact ⟨v,ys,Tr.step (fun m=>by rw [zax];rfl) a1,a2,a3,Tr.step (fun m=>by rw [zaL];rfl) (a4 [])⟩
theorem mhForms (l:List Form):MH zax zaL l (3*Form.ws l):=mhForm_n _ l (Nat.le_refl _)
theorem mhForm (f:Form) (k:Int) (h0:0≤k) (h1:k+(3*f.w:Nat)≤4611686018427387904):∃ v a b,Tr (fun m=>zdH m f k) (v,a,b)∧k≤v∧v≤k+(3*f.w:Nat)∧∀ kd nm nn,Tr (fun m=>m_laws_heldForm m (.mk kd nm nn a b) k) v:=by
 obtain ⟨p1,p2,p3,p4,p5⟩:=f
 rw [Form.w] at h1 ⊢
 obtain ⟨v1,a,b1,b2,b3,b4⟩:=mhInt p4 k h0 (by omega)
 obtain ⟨v2,b,c1,c2,c3,c4⟩:=mhForms p5 v1 (by omega) (by omega)
 refine ⟨v2,a,b,?_,by omega,by omega,fun kd nm nn=>?_⟩
 ·refine Tr.eq (fun m=>by unfold zdH;rfl) ?_
  exact Tr.bind b1 (Tr.bind c1 Tr.val)
 ·refine Tr.eq (fun m=>by unfold m_laws_heldForm;rfl) ?_
  refine Tr.bind b4 (Tr.ff (zc5 (by omega)) ?_)
  refine Tr.bind c4 (Tr.ff (zc5 (by omega)) Tr.val)
theorem markHit_loop:∀ (xs d:List Hit) (k:Int),(∀ x∈xs,MH zbS zbv x.many (3*Hit.ws x.many))→d.length+xs.length≤4611686018427387904→0≤k→k+(3*Hit.ws xs:Nat)≤4611686018427387904 →
  ∃ v ys,Tr (fun m=>zbL m k (d.length:Int) (d++xs)) (v,d++ys)∧k≤v∧v≤k+(3*Hit.ws xs:Nat)∧∀ d':List Hit,Tr (fun m=>zbN m (d'++ys) k (d'.length:Int)) v
 | [],d,k,ih,hl,h0,h1=>⟨k,[],Tr.step (fun m=>by rw [zbL,zgq,cond_false]) Tr.val,Int.le_refl _,by omega,fun d'=>Tr.step (fun m=>by rw [zbN,zgq,cond_false]) Tr.val⟩
 | .mk (.mk kd nm nn sc ks) dp (.mk kd' nm' nn' sc' ks') mn::xs,d,k,ih,hl,h0,h1=>by
   rw [Hit.ws,Hit.w,Form.w,Form.w] at h1
   rw [List.length_cons] at hl
   obtain ⟨t,ht⟩:=zhh (k:=k+1) (by omega) (by omega)
   obtain ⟨v1,a,b1,b2,b3,b4⟩:=mhInt sc (k+1+1+1) (by omega) (by omega)
   obtain ⟨v2,b,c1,c2,c3,c4⟩:=mhForms ks v1 (by omega) (by omega)
   obtain ⟨t',ht'⟩:=zhh (k:=v2+1+1) (by omega) (by omega)
   obtain ⟨v3,a',d1,d2,d3,d4⟩:=mhInt sc' (v2+1+1+1+1) (by omega) (by omega)
   obtain ⟨v4,b',e1,e2,e3,e4⟩:=mhForms ks' v3 (by omega) (by omega)
   obtain ⟨v5,mm,f1,f2,f3,f4⟩:=ih _ (List.mem_cons_self ..) v4 (by omega) (by show v4+(3*Hit.ws mn:Nat)≤_;omega)
   have f3':v5≤v4+(3*Hit.ws mn:Nat):=f3
   obtain ⟨v,ys,a1,a2,a3,a4⟩:=markHit_loop xs (d++[.mk (.mk k t (k+1+1) a b) v2 (.mk (v2+1) t' (v2+1+1+1) a' b') mm]) v5 (fun x hx=>ih x (List.mem_cons_of_mem _ hx)) (by simp;omega) (by omega) (by omega)
   have w1:=zgJ h0 (by omega)
   have w2:=zgJ (k:=k+1) (by omega) (by omega)
   have w3:=zgJ (k:=k+1+1) (by omega) (by omega)
   have w4:=zgJ (k:=v2) (by omega) (by omega)
   have w5:=zgJ (k:=v2+1) (by omega) (by omega)
   have w6:=zgJ (k:=v2+1+1) (by omega) (by omega)
   have w7:=zgJ (k:=v2+1+1+1) (by omega) (by omega)
   refine ⟨v,.mk (.mk k t (k+1+1) a b) v2 (.mk (v2+1) t' (v2+1+1+1) a' b') mm::ys,?_,by omega,by rw [Hit.ws,Hit.w,Form.w,Form.w];omega,fun d'=>?_⟩
   ·refine Tr.step (fun m=>by rewrite [zbL];simp only [Form.kind,Form.name,Form.n,Form.scopes,Form.kids,Hit.name,Hit.depth,Hit.one,Hit.many,zgp,cond_true,zfQ,Option.bind_some,mk_set_mid,w1,w2,w3];rfl) ?_
    refine Tr.bind ht (Tr.bind b1 (Tr.bind c1 ?_))
    refine Tr.eq (fun m=>by simp only [w4,w5,w6,w7];rfl) (Tr.bind ht' ?_)
    refine Tr.bind d1 (Tr.bind e1 (Tr.bind f1 ?_))
    refine Tr.eq (fun m=>?_) (zef d (.mk (.mk k t (k+1+1) a b) v2 (.mk (v2+1) t' (v2+1+1+1) a' b') mm) ys ▸ a1)
    rw [← zef,← mk_mid_lenw _ _ (by omega)]
   ·refine Tr.step (fun m=>by rewrite [zbN];simp only [Form.kind,Form.name,Form.n,Form.scopes,Form.kids,Hit.name,Hit.depth,Hit.one,Hit.many,zgp,cond_true,zfQ,Option.bind_some,w1,w2,w3];rfl) ?_
    refine Tr.ff (za8 k) ?_
    refine Tr.bind ht (Tr.ff (za8 t) (Tr.ff (za8 (k+1+1)) ?_))
    refine Tr.bind b4 (Tr.ff (zc5 (by omega)) ?_)
    refine Tr.bind c4 (Tr.ff (zc5 (by omega)) ?_)
    refine Tr.eq (fun m=>by simp only [w4,w5,w6,w7];rfl) ?_
    refine Tr.ff (za8 v2) (Tr.ff (za8 (v2+1)) ?_)
    refine Tr.bind ht' (Tr.ff (za8 t') (Tr.ff (za8 (v2+1+1+1)) ?_))
    refine Tr.bind d4 (Tr.ff (zc5 (by omega)) ?_)
    refine Tr.bind e4 (Tr.ff (zc5 (by omega)) ?_)
    refine Tr.bind f4 (Tr.ff (zc5 (by omega)) ?_)
    refine Tr.eq (fun m=>?_) (a4 (d'++[.mk (.mk k t (k+1+1) a b) v2 (.mk (v2+1) t' (v2+1+1+1) a' b') mm]))
    rw [← zef,← mk_mid_len]
theorem mhHit_n:∀ (n:Nat) (l:List Hit),Hit.ws l≤n→MH zbS zbv l (3*Hit.ws l):=by
 intro n
 induction n with
 | zero =>
   intro l hl k h0 h1
   have hx:=Hit.ws_len l
   have:l=[]:=List.eq_nil_of_length_eq_zero (by omega)
   subst this
   obtain ⟨v,ys,a1,a2,a3,a4⟩:=markHit_loop [] [] k (fun x hx=>by cases hx) (by simp) h0 h1
   exact ⟨v,ys,Tr.step (fun m=>by rw [zbS];rfl) a1,a2,a3,Tr.step (fun m=>by rw [zbv];rfl) (a4 [])⟩
 | succ n ih =>
   intro l hl k h0 h1
   have hx:=Hit.ws_len l
   obtain ⟨v,ys,a1,a2,a3,a4⟩:=markHit_loop l [] k (fun x hx=>ih _ (by
    have:=Hit.ws_mem hx
    obtain ⟨p1,p2,p3,p4⟩:=x
    rw [Hit.w] at this
    show Hit.ws p4≤n
    omega)) (by simp only [List.length_nil];omega) h0 h1
   exact ⟨v,ys,Tr.step (fun m=>by rw [zbS];rfl) a1,a2,a3,Tr.step (fun m=>by rw [zbv];rfl) (a4 [])⟩
theorem mhHits (l:List Hit):MH zbS zbv l (3*Hit.ws l):=mhHit_n _ l (Nat.le_refl _)
def Rule.mws:List Rule→Nat
 | []=>0
 | r::rs=>1+r.pattern.w+r.template.w+Rule.mws rs
theorem Rule.mws_len:∀ l:List Rule,l.length≤Rule.mws l
 | []=>Nat.le_refl _
 | r::rs=>by have:=Rule.mws_len rs;rw [Rule.mws,List.length_cons];omega
end Go.Abs
end
section
set_option linter.unusedVariables false
set_option linter.unusedSimpArgs false
namespace Go.Abs
theorem Rule.mws_wt:∀ l:List Rule,Rule.mws l≤3*l.length+2*sumW Rule.wt l
 | []=>Nat.zero_le _
 | r::rs=>by
   have h:=Rule.mws_wt rs
   have a:=r.pattern.w_wt
   have b:=r.template.w_wt
   have e:r.wt=r.pattern.wt+r.template.wt:=rfl
   rw [Rule.mws,List.length_cons,sumW];omega
end Go.Abs
end
section
set_option linter.unusedVariables false
set_option linter.unusedSimpArgs false
namespace Go.Abs
theorem eqHitS_self (a:List Hit):Tr (fun m=>zb6 m a a) true:=by have:=eqHitS_tr a a;rwa [zfn] at this
end Go.Abs
end
section
set_option linter.unusedVariables false
set_option linter.unusedSimpArgs false
namespace Go.Abs
def Bind.mws:List Bind→Nat
 | []=>0
 | b::bs=>2+b.scopes.length+Bind.mws bs
theorem Bind.mws_len:∀ l:List Bind,l.length≤Bind.mws l
 | []=>Nat.le_refl _
 | b::bs=>by have:=Bind.mws_len bs;rw [Bind.mws,List.length_cons];omega
theorem Bind.mws_wt:∀ l:List Bind,Bind.mws l≤2*l.length+sumW Bind.wt l
 | []=>Nat.zero_le _
 | b::bs=>by
   have:=Bind.mws_wt bs
   have e:b.wt=b.name.size+b.scopes.length:=rfl
   rw [Bind.mws,List.length_cons,sumW];omega
theorem markBind_loop:∀ (xs d:List Bind) (k:Int),d.length+xs.length≤4611686018427387904→0≤k→k+(Bind.mws xs:Nat)≤4611686018427387904 →
  ∃ v ys,Tr (fun m=>zaX m k (d.length:Int) (d++xs)) (v,ys)∧k≤v∧v≤k+(Bind.mws xs:Nat)
 | [],d,k,hl,h0,h1=>⟨k,_,Tr.step (fun m=>by rw [zaX,zgq,cond_false]) Tr.val,Int.le_refl _,by omega⟩
 | .mk nm sc id::xs,d,k,hl,h0,h1=>by
   have h1':k+((2+sc.length+Bind.mws xs:Nat):Int)≤4611686018427387904:=h1
   rw [List.length_cons] at hl
   obtain ⟨t,ht⟩:=zhh (k:=k) (by omega) (by omega)
   obtain ⟨v1,a,b1,b2,b3,b4⟩:=mhInt sc (k+1) (by omega) (by omega)
   obtain ⟨v,ys,a1,a2,a3⟩:=markBind_loop xs (d++[.mk t a v1]) (v1+1) (by simp;omega) (by omega) (by omega)
   have w1:=zgJ h0 (by omega)
   have w2:=zgJ (k:=v1) (by omega) (by omega)
   refine ⟨v,ys,?_,by omega,by show v≤k+((2+sc.length+Bind.mws xs:Nat):Int);omega⟩
   refine Tr.step (fun m=>by rewrite [zaX];simp only [Bind.name,Bind.scopes,Bind.id,zgp,cond_true,zfQ,Option.bind_some,mk_set_mid,w1];rfl) ?_
   refine Tr.bind ht (Tr.bind b1 ?_)
   refine Tr.eq (fun m=>?_) a1
   rw [← zef,← mk_mid_lenw _ _ (by omega)]
   show zaX m (w64 (v1+1)) _ _=_
   rw [w2]
theorem mhBinds (l:List Bind) (k:Int) (h0:0≤k) (h1:k+(Bind.mws l:Nat)≤4611686018427387904):∃ v ys,Tr (fun m=>zea m l k) (v,ys)∧k≤v∧v≤k+(Bind.mws l:Nat):=by
 have hx:=Bind.mws_len l
 obtain ⟨v,ys,a1,a2,a3⟩:=markBind_loop l [] k (by simp only [List.length_nil];omega) h0 h1
 exact ⟨v,ys,Tr.eq (fun m=>by unfold zea;rfl) a1,a2,a3⟩
end Go.Abs
end
section
set_option linter.unusedVariables false
set_option linter.unusedSimpArgs false
namespace Go.Abs
theorem implMP_tr (bs:List Bind) (p:Form) (lits:List Form) (f:Form) (hb:∀ b∈bs,b.fit) (hbl:bs.length≤2 ^ 36) (hp:p.fit) (hpw:p.w≤2 ^ 36) (hl:Form.fits lits) (hf:f.fit) :
  Tr (fun m=>zan m bs p lits f) (zfj bs p lits f):=by
 by_cases hpo:patOk p lits=true
 ·by_cases hfv:f.valid=true
  ·exact implMatchPattern_tr bs p lits f hb hbl hp (Nat.le_trans (patOk_w hpo) (by decide)) hl hf (Nat.le_trans (valid_w hfv) (by decide))
  ·have hfv':f.valid=false:=by simpa using hfv
   have e:zfj bs p lits f=([],false):=by unfold zfj;rw [hfv',Bool.and_false,Bool.and_false,cond_false]
   rw [e]
   have no:Tr (fun m=>zF m bs p lits f true) (([]:List Hit),false):=Tr.step (fun m=>by rw [zF];rfl) Tr.val
   refine Tr.eq (fun m=>by unfold zan;rfl) (Tr.bind (zdO bs (by omega) hb) ?_)
   cases hbv:bvOk bs with
   | false=>exact Tr.tt rfl no
   | true =>
   refine Tr.ff rfl (Tr.bind (zfg p lits hp hpw hl) ?_)
   rw [hpo]
   refine Tr.ff rfl (Tr.bind (ze9 f hf) ?_)
   rw [hfv'];exact no
 ·have hpo':patOk p lits=false:=by simpa using hpo
  have e:zfj bs p lits f=([],false):=by unfold zfj;rw [hpo',Bool.false_and,Bool.and_false,cond_false]
  rw [e]
  have no:Tr (fun m=>zF m bs p lits f true) (([]:List Hit),false):=Tr.step (fun m=>by rw [zF];rfl) Tr.val
  refine Tr.eq (fun m=>by unfold zan;rfl) (Tr.bind (zdO bs (by omega) hb) ?_)
  cases hbv:bvOk bs with
  | false=>exact Tr.tt rfl no
  | true =>
  refine Tr.ff rfl (Tr.bind (zfg p lits hp hpw hl) ?_)
  rw [hpo'];exact Tr.tt rfl no
theorem specMP_tr (bs:List Bind) (p:Form) (lits:List Form) (f:Form) (hb:∀ b∈bs,b.fit) (hbl:bs.length≤2 ^ 36) (hp:p.fit) (hpw:p.w≤2 ^ 36) (hl:Form.fits lits) (hlw:Form.ws lits≤2 ^ 36) (hf:f.fit) (hfw:f.w≤2 ^ 36) :
  Tr (fun m=>zbr m bs p lits f) (zfj bs p lits f):=by
 by_cases hpo:patOk p lits=true
 ·by_cases hfv:f.valid=true
  ·exact specMatchPattern_tr bs p lits f hb hbl hp (Nat.le_trans (patOk_w hpo) (by decide)) hl hlw hf (Nat.le_trans (valid_w hfv) (by decide))
  ·have hfv':f.valid=false:=by simpa using hfv
   have e:zfj bs p lits f=([],false):=by unfold zfj;rw [hfv',Bool.and_false,Bool.and_false,cond_false]
   rw [e]
   have no:Tr (fun m=>zU m bs p lits f true) (([]:List Hit),false):=Tr.step (fun m=>by rw [zU];rfl) Tr.val
   refine Tr.eq (fun m=>by unfold zbr;rfl) (Tr.bind (zfN bs hb) ?_)
   cases hbv:bvOk bs with
   | false=>exact Tr.tt rfl no
   | true =>
   refine Tr.ff rfl (Tr.bind (l4Is_tr p lits hp hpw hl hlw) ?_)
   rw [hpo]
   refine Tr.ff rfl (Tr.bind (ze0 f hf hfw) ?_)
   rw [hfv'];exact no
 ·have hpo':patOk p lits=false:=by simpa using hpo
  have e:zfj bs p lits f=([],false):=by unfold zfj;rw [hpo',Bool.false_and,Bool.and_false,cond_false]
  rw [e]
  have no:Tr (fun m=>zU m bs p lits f true) (([]:List Hit),false):=Tr.step (fun m=>by rw [zU];rfl) Tr.val
  refine Tr.eq (fun m=>by unfold zbr;rfl) (Tr.bind (zfN bs hb) ?_)
  cases hbv:bvOk bs with
  | false=>exact Tr.tt rfl no
  | true =>
  refine Tr.ff rfl (Tr.bind (l4Is_tr p lits hp hpw hl hlw) ?_)
  rw [hpo'];exact Tr.tt rfl no
theorem matchP_w (bs:List Bind) (p:Form) (lits:List Form) (f:Form):Hit.ws (zfj bs p lits f).1≤2 ^ 30:=by
 rcases matchP_cases bs p lits f with h | ⟨h,h1,h2,h3,h4,h5⟩
 ·rw [h];exact Nat.zero_le _
 ·rw [h5];exact mt_light h2 h3 h4
theorem zhr (bs:List Bind) (p:Form) (lits:List Form) (f:Form) (hbl:bs.length≤9223372036854775807) (hb:∀ b∈bs,b.fit) (hp:p.fit) (hll:lits.length≤9223372036854775807) (hl:Form.fits lits) (hf:f.fit) :
  TQ (fun m=>zci m bs p lits f) (fun b=>b=true):=by
 refine TQ.eq (fun m=>by unfold zci;rfl) (TQ.bind (szBindS_tq bs 1048576 hbl hb (by omega) (by omega)) (fun v hv=>?_))
 rcases hv with rfl | ⟨h0,rfl⟩
 ·exact TQ.cond (fun _=>TQ.val rfl) (fun h=>absurd h (by decide))
 refine TQ.cond (fun h=>absurd h (by rw [geZ h0];decide)) (fun _=>TQ.bind (szForm_tq p _ hp h0 (by omega)) (fun v hv=>?_))
 rcases hv with rfl | ⟨h1,rfl⟩
 ·exact TQ.cond (fun _=>TQ.val rfl) (fun h=>absurd h (by decide))
 refine TQ.cond (fun h=>absurd h (by rw [geZ h1];decide)) (fun _=>TQ.bind (szFormS_tq lits _ hll hl h1 (by omega)) (fun v hv=>?_))
 rcases hv with rfl | ⟨h2,rfl⟩
 ·exact TQ.cond (fun _=>TQ.val rfl) (fun h=>absurd h (by decide))
 refine TQ.cond (fun h=>absurd h (by rw [geZ h2];decide)) (fun _=>TQ.bind (szForm_tq f _ hf h2 (by omega)) (fun v hv=>?_))
 rcases hv with rfl | ⟨h3,rfl⟩
 ·exact TQ.cond (fun _=>TQ.val rfl) (fun h=>absurd h (by decide))
 refine TQ.cond (fun h=>absurd h (by rw [geZ h3];decide)) (fun _=>?_)
 have hfw:=f.w_wt
 have hpw:=p.w_wt
 have hws:=Form.ws_wts lits
 have hbw:∀ b∈bs,b.scopes.length≤2 ^ 36:=fun b hb=>by
  have h:=sumW_mem (W:=Bind.wt) hb
  have e:b.wt=b.name.size+b.scopes.length:=rfl
  omega
 have hmb:=Bind.mws_wt bs
 have t1:=toBindS_tr bs (by omega) hbw
 have t2:=toForm_tr p (by omega)
 have t3:=toFormS_tr lits (by omega)
 have t4:=toForm_tr f (by omega)
 have ti:=implMP_tr bs p lits f hb (by omega) hp (by omega) hl hf
 have ts:=specMP_tr bs p lits f hb (by omega) hp (by omega) hl (by omega) hf (by omega)
 have eh:=eqHitS_self (zfj bs p lits f).1
 have hw:=matchP_w bs p lits f
 refine ⟨true,?_,rfl⟩
 obtain ⟨v0,q0,k1,k2,k3⟩:=mhBinds bs 1 (by omega) (by omega)
 obtain ⟨v1,q1,q1',m1,m2,m3,m4⟩:=mhForm p v0 (by omega) (by omega)
 obtain ⟨v2,q2,n1,n2,n3,n4⟩:=mhForms lits v1 (by omega) (by omega)
 obtain ⟨v3,q3,q4,o1,o2,o3,o4⟩:=mhForm f v2 (by omega) (by omega)
 obtain ⟨v,ys,a1,a2,a3,a4⟩:=mhHits (zfj bs p lits f).1 1 (by omega) (by omega)
 refine Tr.bind t1 (Tr.bind t2 (Tr.bind t3 (Tr.bind t4 (Tr.bind ts (Tr.bind t1 (Tr.bind t2 (Tr.bind t3 (Tr.bind t4 (Tr.bind ti (Tr.bind eh (Tr.ff rfl ?_)))))))))))
 refine Tr.eq (fun m=>by rw [za8]) ?_
 refine Tr.step (fun m=>by rw [zaz]) ?_
 refine Tr.ff rfl ?_
 refine Tr.bind t1 (Tr.bind (eqBindS_self bs) (Tr.ff rfl (Tr.bind t2 (Tr.bind (eqForm_self p) (Tr.ff rfl (Tr.bind t3 (Tr.bind (eqFormS_self lits) (Tr.ff rfl (Tr.bind t4 (Tr.bind (eqForm_self f) (Tr.ff rfl ?_)))))))))))
 refine Tr.bind k1 (Tr.bind m1 (Tr.bind n1 (Tr.bind o1 (Tr.ff (zc5 (by show 0≤v3;omega)) (Tr.bind eh (Tr.ff rfl ?_))))))
 refine Tr.eq (fun m=>by rw [za8]) ?_
 refine Tr.step (fun m=>by rw [zag]) ?_
 refine Tr.ff rfl ?_
 refine Tr.bind a1 (Tr.bind a4 (Tr.ff (zc5 (by omega)) (Tr.ff (za8 v) ?_)))
 refine Tr.bind t1 (Tr.bind t2 (Tr.bind t3 (Tr.bind t4 (Tr.bind ti (Tr.bind eh (Tr.ff rfl ?_))))))
 refine Tr.eq (fun m=>by rw [za8]) ?_
 refine Tr.step (fun m=>by rw [zay]) ?_
 refine Tr.ff rfl ?_
 exact Tr.bind a4 (Tr.ff (zc5 (by omega)) (Tr.ff (za8 v) Tr.val))
end Go.Abs
end
