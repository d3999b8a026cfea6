/- A part of the proof: what the functions that the law calls answer, as pure values. -/
import Derived.Test.YtjjjnhpghhamkaaGreatKc0fe836f7e33
import Derived.Test.YtjjjnhpghhamkaaGreatK8d582f2e31e6
import Derived.Test.YtjjjnhpghhamkaaGreatK135f79d6a7aa
import Derived.Test.YtjjjnhpghhamkaaGreatK4ee70f842008
import Derived.Test.YtjjjnhpghhamkaaGreatK0782c27d5cbf
import Derived.Test.YtjjjnhpghhamkaaGreatKaa13c66553ec
import Derived.Test.YtjjjnhpghhamkaaGreatK06634278733b
import Derived.Test.YtjjjnhpghhamkaaGreatK8faf616840a9
import Derived.Test.YtjjjnhpghhamkaaGreatK48decf646e3b
import Derived.Test.YtjjjnhpghhamkaaGreatKfe938720da0d
import Derived.Test.YtjjjnhpghhamkaaGreatKdce879462e48
set_option linter.unusedSimpArgs false
set_option linter.unusedVariables false
set_option maxRecDepth 100000
set_option maxHeartbeats 4000000
namespace Go.Abs
open Go.Proofs
def m_spec_FirstRule_AC (fuel:Nat):Prop:=∀ (x1:(List Bind)) (x2:(List Rule)) (x3:(List Form)) (x4:Form) (r:(Int × Bool)),zd9 fuel x1 x2 x3 x4=some r→AC Tryz.prog 33 [.t (.sl (x1.map Bind.row)),.t (.sl (x2.map Rule.row)),.t (.sl (x3.map Form.row)),.ag [.t (.sc (.int .i64 x4.kind)),.t (.sc (.str x4.name)),.t (.sc (.int .i64 x4.n)),.t (.sl (x4.scopes.map rI)),.t (.sl (x4.kids.map Form.row))]] noOb (.tp [.t (.sc (.int .i64 r.1)),.t (.sc (.bool r.2))]) noOb
theorem zh4 (fuel:Nat):m_spec_FirstRule_AC fuel:=by
 intro x1 x2 x3 x4 r F0
 unfold zd9 at F0
 refine AC_i [.t (.sc (.int .i64 r.1)),.t (.sc (.bool r.2))] Tryz.func33 rfl Tryz.ntmps33 ?_
 intro C hC
 refine zb (za ?_)
 refine zaN ?_
 refine s_as ?_
 refine s_as ?_
 refine zf (zd (zb ?_))
 refine za2 (α:=Nat × Bool) [13,14,15,16,17,18,19,20,21,22,23,24,25,26] [] [] (fun a=>[(26,.t (.sc (.bool a.2)))]) (fun a=>[]) (fun a=>a.1≤fuel∧zbm a.1 x1 x2 x3 x4 a.2=some r) ?_ ?_
 refine za ?_
 refine s_mv ?_
 obtain ⟨v1,V1,F1⟩:=zc F0
 refine zv [] (m_spec_BindsValid_ok fuel _ _ V1) ?_
 refine zaG ?_
 refine s_mv ?_
 refine zo _ 16 F1 ?_ ?_<;>intro C2 F2
 iterate 4 refine r_no rfl ?_
 refine zA ?_
 refine s_mv ?_
 iterate 3 refine r_no rfl ?_
 refine zA ?_
 refine zf ?_
 exact s_jn (fuel,true) ⟨by first | omega | (dsimp only;omega),F2⟩
 refine s_mv ?_
 refine s_mv ?_
 obtain ⟨v3,V3,F3⟩:=zc F2
 refine zv [] (ziJ fuel _ _ _ V3) ?_
 refine zaG ?_
 refine zy ?_
 refine s_mv ?_
 refine zo _ 22 F3 ?_ ?_<;>intro C4 F4
 iterate 3 refine r_no rfl ?_
 refine zA ?_
 refine zf ?_
 exact s_jn (fuel,true) ⟨by first | omega | (dsimp only;omega),F4⟩
 refine zG yA27 yS27 ?_
 obtain ⟨v5,V5,F5⟩:=zc F4
 refine zv [] (zcf fuel _ _ V5) ?_
 refine zaG ?_
 refine zy ?_
 refine zf ?_
 exact s_jn (fuel,(!v5)) ⟨by first | omega | (dsimp only;omega),F5⟩
 clear F0
 rintro ⟨fu,g6⟩ ⟨hl7,F1⟩
 dsimp only at hl7 F1 ⊢
 obtain _ | fu:=fu
 · rw [zbm] at F1;cases F1
 rw [zbm] at F1
 refine zm F1 ?_ ?_<;>intro C8 F2
 refine zb (za ?_)
 refine s_as ?_
 refine s_as ?_
 refine zf (zd (zh (zg (zn ?_))))
 cases F2
 exact zk [] [] Tryz.results33
 refine zi (zd (zb (zb (za ?_))))
 refine s_as ?_
 refine zf (zd (zl ?_))
 refine zaP (β:=Int) [8,9,10,11,12,27,28,29,30,31,32,33,34,35,36,37,38,39,40,41,42,43,44,45,46] [] [] (fun a=>[(10,.t (.sc (.int .i64 a.2)))]) (fun a=>[]) (fun a=>a.1≤fu∧zcg a.1 x1 x2 x3 x4 a.2=some r∧0≤a.2) (fu,0) ⟨Nat.le_refl _,F2,by simp⟩ ?_
 clear F2
 rintro ⟨fu,g9⟩ ⟨hl10,F3,hn_g9⟩
 dsimp only at hl10 F3 hn_g9 ⊢
 obtain _ | fu:=fu
 · rw [zcg] at F3;cases F3
 rw [zcg] at F3
 refine zb (zb (za ?_))
 refine s_mv ?_
 refine s_mv ?_
 refine zC yU62 ?_
 refine s_lt ?_
 refine zf (zd ?_)
 refine zm F3 ?_ ?_<;>intro C11 F4
 refine zM 1 (fun B12=>?_)
 refine zi (zd (zb (zl (zb ?_))))
 refine zP yMix (by kernel_rfl) ?_
 iterate 3 refine s_mv ?_
 obtain ⟨v13,V13,F5⟩:=zc F4
 refine zK Rule.row V13 (Rule.row_eq _) yE62 ?_
 refine s_fa zhX ?_
 refine zai yA27 yS27 ?_
 refine s_mv ?_
 refine zG yA27 yS27 ?_
 obtain ⟨v14,V14,F6⟩:=zc F5
 refine zv [] (ziL fu _ _ _ _ _ V14) ?_
 refine s_mv ?_
 refine za4 ?_
 refine za4 ?_
 refine s_as ?_
 refine s_as ?_
 refine zah (by kernel_rfl) ?_
 refine zd (zb (za ?_))
 refine s_mv ?_
 refine zf (zd ?_)
 refine zm F6 ?_ ?_<;>intro C15 F7
 refine zb (za ?_)
 refine s_mv ?_
 refine s_as ?_
 refine s_as ?_
 refine zf (zd (zh (zj (zg (zw (zj (zg (zn ?_))))))))
 cases F7
 exact zk [] [] Tryz.results33
 refine zi (zW (zd (za ?_)))
 refine s_mv ?_
 refine zJ (zar C11 B12 hn_g9) ?_
 refine s_as ?_
 refine zf ?_
 exact s_rn (fu,(g9+1)) ⟨by first | omega | (dsimp only;omega),F7,by first | omega | (dsimp only;omega)⟩
 refine zz (zq (zp (zr (zd (zb (za ?_))))))
 refine s_as ?_
 refine s_as ?_
 refine zf (zd (zh (zn ?_)))
 cases F4
 exact zk [] [] Tryz.results33
def m_impl_depthIn_1_AC (fuel:Nat):Prop:=∀ (x1:Form) (o1:Form) (r:Bool),zfj fuel x1 o1=some r→AC Tryz.prog 206 [.ag [.t (.sc (.int .i64 x1.kind)),.t (.sc (.str x1.name)),.t (.sc (.int .i64 x1.n)),.t (.sl (x1.scopes.map rI)),.t (.sl (x1.kids.map Form.row))],.rf 9000 0] (objs [(9000,.box [.t (.sc (.int .i64 o1.kind)),.t (.sc (.str o1.name)),.t (.sc (.int .i64 o1.n)),.t (.sl (o1.scopes.map rI)),.t (.sl (o1.kids.map Form.row))])]) (.t (.sc (.bool r))) (objs [(9000,.box [.t (.sc (.int .i64 o1.kind)),.t (.sc (.str o1.name)),.t (.sc (.int .i64 o1.n)),.t (.sl (o1.scopes.map rI)),.t (.sl (o1.kids.map Form.row))])])
theorem m_impl_depthIn_1_ok (fuel:Nat):m_impl_depthIn_1_AC fuel:=by
 intro x1 o1 r F0
 unfold zfj at F0
 refine AC_i [.t (.sc (.bool r))] Tryz.func206 rfl Tryz.ntmps206 ?_
 intro C hC
 refine zb (za ?_)
 refine zaN ?_
 refine s_as ?_
 refine zf (zd (zb (za ?_)))
 refine zG yA27 yS27 ?_
 refine zG yA27 yS27 ?_
 obtain ⟨v1,V1,F1⟩:=zc F0
 refine zv [] (zbi fuel _ _ _ V1) ?_
 refine s_as ?_
 refine zf (zd (zh (zn ?_)))
 cases F1
 exact zk _ [] Tryz.results206
def zgg (fuel:Nat):Prop:=∀ (x1:(List Form)) (o1:Form) (r:Int),zbF fuel x1 o1=some r→AC Tryz.prog 178 [.t (.sl (x1.map Form.row)),.fn 206 [.rf 9000 0]] (objs [(9000,.box [.t (.sc (.int .i64 o1.kind)),.t (.sc (.str o1.name)),.t (.sc (.int .i64 o1.n)),.t (.sl (o1.scopes.map rI)),.t (.sl (o1.kids.map Form.row))])]) (.t (.sc (.int .i64 r))) (objs [(9000,.box [.t (.sc (.int .i64 o1.kind)),.t (.sc (.str o1.name)),.t (.sc (.int .i64 o1.n)),.t (.sl (o1.scopes.map rI)),.t (.sl (o1.kids.map Form.row))])])
theorem zgf (fuel:Nat):zgg fuel:=by
 intro x1 o1 r F0
 unfold zbF at F0
 refine AC_i [.t (.sc (.int .i64 r))] Tryz.func178 rfl Tryz.ntmps178 ?_
 intro C hC
 refine zb (za ?_)
 refine s_as ?_
 refine zf (zd (zb (zb (za ?_))))
 refine s_mv ?_
 refine zC yU25 ?_
 refine s_mv ?_
 refine zf (zd (zl ?_))
 refine zaP (β:=Int) [4,5,8,9,10,11,12,13,14,15,16,17,18] [] [] (fun a=>[(8,.t (.sc (.int .i64 a.2)))]) (fun a=>[]) (fun a=>a.1≤fuel∧zaa a.1 x1 o1 a.2=some r∧0≤a.2) (fuel,0) ⟨Nat.le_refl _,F0,by simp⟩ ?_
 clear F0
 rintro ⟨fu,g1⟩ ⟨hl2,F1,hn_g1⟩
 dsimp only at hl2 F1 hn_g1 ⊢
 obtain _ | fu:=fu
 · rw [zaa] at F1;cases F1
 rw [zaa] at F1
 refine zb (za ?_)
 refine s_lt ?_
 refine zf (zd (zb ?_))
 refine zm F1 ?_ ?_<;>intro C3 F2
 refine zM 0 (fun B4=>?_)
 refine zi (zd (zb (zl (zb (za ?_)))))
 refine s_mv ?_
 refine s_as ?_
 refine zf (zd (zb (za ?_)))
 iterate 3 refine s_mv ?_
 obtain ⟨v5,V5,F3⟩:=zc F2
 refine zK Form.row V5 (Form.row_eq _) yE25 ?_
 refine zai yA27 yS27 ?_
 obtain ⟨v6,V6,F4⟩:=zc F3
 refine z4 [(9000,9000)] [] _ _ (m_impl_depthIn_1_ok fu _ _ _ V6) ?_
 refine zf (zd ?_)
 refine zm F4 ?_ ?_<;>intro C7 F5
 refine zb (za ?_)
 refine s_mv ?_
 refine s_as ?_
 refine zf (zd (zh (zj (zg (zw (zj (zg (zn ?_))))))))
 cases F5
 exact zk _ [] Tryz.results178
 refine zi (zW (zd (za ?_)))
 refine zJ (zar C3 B4 hn_g1) ?_
 refine s_mv ?_
 refine zf ?_
 exact s_rn (fu,(g1+1)) ⟨by first | omega | (dsimp only;omega),F5,by first | omega | (dsimp only;omega)⟩
 refine zz (zq (zp (zr (zd (zb (za ?_))))))
 refine s_as ?_
 refine zf (zd (zh (zn ?_)))
 cases F2
 exact zk _ [] Tryz.results178
def m_impl_depthIn_AC (fuel:Nat):Prop:=∀ (x1:(List Form)) (x2:(List Int)) (x3:Form) (r:Int),zfs fuel x1 x2 x3=some r→AC Tryz.prog 191 [.t (.sl (x1.map Form.row)),.t (.sl (x2.map rI)),.ag [.t (.sc (.int .i64 x3.kind)),.t (.sc (.str x3.name)),.t (.sc (.int .i64 x3.n)),.t (.sl (x3.scopes.map rI)),.t (.sl (x3.kids.map Form.row))]] noOb (.t (.sc (.int .i64 r))) noOb
theorem ziU (fuel:Nat):m_impl_depthIn_AC fuel:=by
 intro x1 x2 x3 r F0
 unfold zfs at F0
 refine AC_i [.t (.sc (.int .i64 r))] Tryz.func191 rfl Tryz.ntmps191 ?_
 intro C hC
 refine zb (za ?_)
 refine zaN ?_
 refine s_as ?_
 refine zf (zd (zb (zb (za ?_))))
 refine s_fa zc1 ?_
 refine zu yA3 ?_
 refine s_ne ?_
 refine zf (zd ?_)
 refine zm F0 ?_ ?_<;>intro C1 F1
 refine zb (za ?_)
 refine s_as ?_
 refine zf (zd (zh (zg (zn ?_))))
 cases F1
 exact zk [] [] Tryz.results191
 refine zi (zd (zb (za ?_)))
 refine s_mv ?_
 refine s_fn ?_
 obtain ⟨v2,V2,F2⟩:=zc F1
 refine z4 [(9000,5)] [] _ _ (zgf fuel _ _ _ V2) ?_
 refine s_as ?_
 refine zf (zd (zb (zb (za ?_))))
 refine s_mv ?_
 refine s_lt ?_
 refine zf (zd ?_)
 refine zm F2 ?_ ?_<;>intro C3 F3
 refine zb (za ?_)
 refine s_as ?_
 refine zf (zd (zh (zg (zn ?_))))
 cases F3
 exact zk [] [] Tryz.results191
 refine zi (zd (zb (za ?_)))
 refine s_mv ?_
 refine s_mv ?_
 obtain ⟨v4,V4,F4⟩:=zc F3
 refine zK rI V4 rfl yE24 ?_
 refine zu yA3 ?_
 refine s_as ?_
 refine zf (zd (zh (zn ?_)))
 cases F4
 exact zk [] [] Tryz.results191
def m_impl_rowsOk_1_AC (fuel:Nat):Prop:=∀ (x1:Form) (o1:Bool) (o2:(List Form)) (o3:(List Int)) (o4:Int) (r:Bool),zg7 fuel x1 o1 o2 o3 o4=some r→AC Tryz.prog 192 [.ag [.t (.sc (.int .i64 x1.kind)),.t (.sc (.str x1.name)),.t (.sc (.int .i64 x1.n)),.t (.sl (x1.scopes.map rI)),.t (.sl (x1.kids.map Form.row))],.rf 9000 0,.rf 9001 0,.rf 9002 0,.rf 9003 0] (objs [(9000,.box [.t (.sc (.bool o1))]),(9001,.box [.t (.sl (o2.map Form.row))]),(9002,.box [.t (.sl (o3.map rI))]),(9003,.box [.t (.sc (.int .i64 o4))])]) (.tp []) (objs [(9000,.box [.t (.sc (.bool r))]),(9001,.box [.t (.sl (o2.map Form.row))]),(9002,.box [.t (.sl (o3.map rI))]),(9003,.box [.t (.sc (.int .i64 o4))])])
theorem m_impl_rowsOk_1_ok (fuel:Nat):m_impl_rowsOk_1_AC fuel:=by
 intro x1 o1 o2 o3 o4 r F0
 unfold zg7 at F0
 refine AC_i [] Tryz.func192 rfl Tryz.ntmps192 ?_
 intro C hC
 refine zb (za ?_)
 refine zaN ?_
 refine zf (zd ?_)
 refine zP yMix (by kernel_rfl) ?_
 refine zu yA4 ?_
 refine s_mv ?_
 refine zo _ 7 F0 ?_ ?_<;>intro C1 F1
 iterate 6 refine r_no rfl ?_
 refine zA ?_
 refine zab yS4 ?_
 refine zah (by kernel_rfl) ?_
 refine zhC ?_
 cases F1
 exact zk _ [] Tryz.results192
 refine zu yA25 ?_
 refine zu yA24 ?_
 refine zG yA27 yS27 ?_
 obtain ⟨v2,V2,F2⟩:=zc F1
 refine zv [] (ziU fuel _ _ _ _ V2) ?_
 refine zu yA3 ?_
 refine s_gt ?_
 refine zy ?_
 refine zab yS4 ?_
 refine zah (by kernel_rfl) ?_
 refine zhC ?_
 cases F2
 exact zk _ [] Tryz.results192
def zcv (fuel:Nat):Prop:=∀ (x1:Form) (o1:Bool) (o2:(List Form)) (o3:(List Int)) (o4:Int) (r:Bool),zbe fuel x1 o1 o2 o3 o4=some r→AC Tryz.prog 78 [.ag [.t (.sc (.int .i64 x1.kind)),.t (.sc (.str x1.name)),.t (.sc (.int .i64 x1.n)),.t (.sl (x1.scopes.map rI)),.t (.sl (x1.kids.map Form.row))],.fn 192 [.rf 9000 0,.rf 9001 0,.rf 9002 0,.rf 9003 0]] (objs [(9000,.box [.t (.sc (.bool o1))]),(9001,.box [.t (.sl (o2.map Form.row))]),(9002,.box [.t (.sl (o3.map rI))]),(9003,.box [.t (.sc (.int .i64 o4))])]) (.tp []) (objs [(9000,.box [.t (.sc (.bool r))]),(9001,.box [.t (.sl (o2.map Form.row))]),(9002,.box [.t (.sl (o3.map rI))]),(9003,.box [.t (.sc (.int .i64 o4))])])
theorem zh6 (fu:Nat) (ih_m_impl_eachForm_rowsOk_1:∀ k,k≤fu→zcv k):zcv (fu+1):=by
 intro x1 o1 o2 o3 o4 r F0
 rw [zbe] at F0
 refine AC_i [] Tryz.func78 rfl Tryz.ntmps78 ?_
 intro C hC
 refine zb (za ?_)
 refine zaN ?_
 refine zf (zd (zb (za ?_)))
 refine s_mv ?_
 refine zG yA27 yS27 ?_
 obtain ⟨v1,V1,F1⟩:=zc F0
 refine z4 [(9000,9000),(9001,9001),(9002,9002),(9003,9003)] [] _ _ (m_impl_rowsOk_1_ok fu _ _ _ _ _ _ V1) ?_
 refine zf (zd (zb (za ?_)))
 refine s_fa zF ?_
 refine zu yA25 ?_
 refine zC yU25 ?_
 refine s_mv ?_
 refine zf (zd (zl ?_))
 refine zaP (β:=Int × Bool) [5,12,13,14,15,16,17,18,19] [9000] [5] (fun a=>[(12,.t (.sc (.int .i64 a.2.1)))]) (fun a=>[(9000,.box [.t (.sc (.bool a.2.2))])]) (fun a=>a.1≤fu∧zaw a.1 x1 o2 o3 o4 a.2.1 a.2.2=some r∧0≤a.2.1) (fu,0,v1) ⟨Nat.le_refl _,F1,by simp⟩ ?_
 clear F1
 rintro ⟨fu,g2,g3⟩ ⟨hl4,F2,hn_g2⟩
 dsimp only at hl4 F2 hn_g2 ⊢
 obtain _ | fu:=fu
 · rw [zaw] at F2;cases F2
 rw [zaw] at F2
 refine zb (za ?_)
 refine s_lt ?_
 refine zf (zd (zb ?_))
 refine zm F2 ?_ ?_<;>intro C5 F3
 refine zM 10 (fun B6=>?_)
 refine zi (zd (zb (zl (zb (za ?_)))))
 obtain ⟨v7,V7,F4⟩:=zc F3
 refine zK Form.row V7 (Form.row_eq _) yE25 ?_
 refine zai yA27 yS27 ?_
 refine zU yZ27 ?_
 refine zab yS27 ?_
 refine zf (zd (za ?_))
 refine zG yA27 yS27 ?_
 refine s_mv ?_
 obtain ⟨v8,V8,F5⟩:=zc F4
 refine z4 [(9000,9000),(9001,9001),(9002,9002),(9003,9003)] [] _ _ (ih_m_impl_eachForm_rowsOk_1 fu (by omega) _ _ _ _ _ _ V8) ?_
 refine zf (zW (zd (za ?_)))
 refine zJ (zar C5 B6 hn_g2) ?_
 refine s_mv ?_
 refine zf ?_
 exact s_rn (fu,(g2+1),v8) ⟨by first | omega | (dsimp only;omega),F5,by first | omega | (dsimp only;omega)⟩
 refine zz (zq (zp (zr (zhC ?_))))
 cases F3
 exact zk _ [] Tryz.results78
theorem zhV (fuel:Nat):zcv fuel:=by
 induction fuel using Nat.strongRecOn with
 | _ N ih =>
   cases N with
   | zero=>exact (by intro x1 o1 o2 o3 o4 r h;rw [zbe] at h;cases h)
   | succ fu=>exact zh6 fu (fun k hk=>(ih k (by omega)))
theorem zh7 (fuel:Nat):zcv fuel:=(zhV fuel)
def zgA (fuel:Nat):Prop:=∀ (x1:Form) (x2:(List Form)) (x3:(List Int)) (x4:Int) (r:Bool),zc3 fuel x1 x2 x3 x4=some r→AC Tryz.prog 158 [.ag [.t (.sc (.int .i64 x1.kind)),.t (.sc (.str x1.name)),.t (.sc (.int .i64 x1.n)),.t (.sl (x1.scopes.map rI)),.t (.sl (x1.kids.map Form.row))],.t (.sl (x2.map Form.row)),.t (.sl (x3.map rI)),.t (.sc (.int .i64 x4))] noOb (.t (.sc (.bool r))) noOb
theorem m_impl_rowsOk_st (fu:Nat) (ih_m_impl_rowsOk:∀ k,k≤fu→zgA k):zgA (fu+1):=by
 intro x1 x2 x3 x4 r F0
 rw [zc3] at F0
 refine AC_i [.t (.sc (.bool r))] Tryz.func158 rfl Tryz.ntmps158 ?_
 intro C hC
 refine zb (za ?_)
 iterate 4 refine zaN ?_
 refine s_as ?_
 refine zf (zd (zb (zb ?_)))
 refine zP yMix (by kernel_rfl) ?_
 refine zu yA25 ?_
 refine zu yA24 ?_
 refine zG yA27 yS27 ?_
 obtain ⟨v1,V1,F1⟩:=zc F0
 refine zv [] (ziU fu _ _ _ _ V1) ?_
 refine zu yA3 ?_
 refine s_gt ?_
 refine zah (by kernel_rfl) ?_
 refine zd ?_
 refine zm F1 ?_ ?_<;>intro C2 F2
 refine zb (za ?_)
 refine s_as ?_
 refine zf (zd (zh (zg (zn ?_))))
 cases F2
 exact zk [] [] Tryz.results158
 refine zi (zd (zb (zb (za ?_))))
 refine s_fa zF ?_
 refine zu yA25 ?_
 refine zC yU25 ?_
 refine s_mv ?_
 refine zf (zd (zl ?_))
 refine zaP (β:=Int) [8,9,10,11,12,22,23,24,25,26,27,28,29,30,31,32,33,34,35,36,37,38,39,40,41,42,43,44,45,46,47,48,49,50,51,52,53,54,55,56,57,58] [] [10,12] (fun a=>[(22,.t (.sc (.int .i64 a.2)))]) (fun a=>[]) (fun a=>a.1≤fu∧zba a.1 x1 x2 x3 x4 a.2=some r∧0≤a.2) (fu,0) ⟨Nat.le_refl _,F2,by simp⟩ ?_
 clear F2
 rintro ⟨fu,g3⟩ ⟨hl4,F3,hn_g3⟩
 dsimp only at hl4 F3 hn_g3 ⊢
 obtain _ | fu:=fu
 · rw [zba] at F3;cases F3
 rw [zba] at F3
 refine zb (za ?_)
 refine s_lt ?_
 refine zf (zd (zb ?_))
 refine zm F3 ?_ ?_<;>intro C5 F4
 refine zM 20 (fun B6=>?_)
 refine zi (zd (zb (zl (zb (za ?_)))))
 refine s_mv ?_
 obtain ⟨v7,V7,F5⟩:=zc F4
 refine zK Form.row V7 (Form.row_eq _) yE25 ?_
 refine zai yA27 yS27 ?_
 refine zU yZ27 ?_
 refine s_as ?_
 refine zab yS27 ?_
 refine zf (zd (zb (zb (za ?_))))
 refine zG yA27 yS27 ?_
 obtain ⟨v8,V8,F6⟩:=zc F5
 refine zv [] (zbM fu _ _ _ V8) ?_
 refine zf (zd ?_)
 refine zm F6 ?_ ?_<;>intro C9 F7
 refine zz (zq (zr (zd (za ?_))))
 refine zJ (zar C5 B6 hn_g3) ?_
 refine s_mv ?_
 refine zf ?_
 exact s_rn (fu,(g3+1)) ⟨by first | omega | (dsimp only;omega),F7,by first | omega | (dsimp only;omega)⟩
 refine zi (zd (zb (za ?_)))
 refine zu yA3 ?_
 refine s_as ?_
 refine zf (zd (zb (zb (za ?_))))
 refine s_mv ?_
 refine zJ (zar C5 B6 hn_g3) ?_
 refine s_fa zF ?_
 refine zu yA25 ?_
 refine zC yU25 ?_
 refine s_lt ?_
 refine s_mv ?_
 refine zo _ 36 F7 ?_ ?_<;>intro C10 F8
 refine s_fa zF ?_
 refine zu yA25 ?_
 refine s_mv ?_
 refine zJ (zar C5 B6 hn_g3) ?_
 obtain ⟨v11,V11,F9⟩:=zc F8
 refine zK Form.row V11 (Form.row_eq _) yE25 ?_
 refine zai yA27 yS27 ?_
 obtain ⟨v12,V12,F10⟩:=zc F9
 refine zv [] (zbM fu _ _ _ V12) ?_
 refine zA ?_
 refine zf (zd ?_)
 refine zm F10 ?_ ?_<;>intro C13 F11
 refine zb (za ?_)
 refine s_mv ?_
 refine zJ rfl ?_
 refine s_as ?_
 refine zf (zd (zb (za ?_)))
 refine zU yZ4 ?_
 refine zab yS4 ?_
 refine zf (zd (zb (za ?_)))
 refine zG yA27 yS27 ?_
 refine s_fn ?_
 obtain ⟨v14,V14,F12⟩:=zc F11
 refine z4 [(9000,12),(9001,5),(9002,6),(9003,7)] [] _ _ (zh7 fu _ _ _ _ _ _ V14) ?_
 refine zf (zd (zb (za ?_)))
 refine zu yA4 ?_
 refine zaG ?_
 refine zf (zd ?_)
 refine zm F12 ?_ ?_<;>intro C15 F13
 refine zb (za ?_)
 refine s_as ?_
 refine zf (zd (zh (zg (zj (zg (zw (zj (zg (zn ?_)))))))))
 cases F13
 exact zk [] [] Tryz.results158
 refine zi (zd (zb (za ?_)))
 refine zG yA27 yS27 ?_
 refine zu yA25 ?_
 refine zu yA24 ?_
 refine s_mv ?_
 obtain ⟨v16,V16,F14⟩:=zc F13
 refine zv [] (ih_m_impl_rowsOk fu (by omega) _ _ _ _ _ V16) ?_
 refine zaG ?_
 refine zf (zd ?_)
 refine zm F14 ?_ ?_<;>intro C17 F15
 refine zb (za ?_)
 refine s_as ?_
 refine zf (zd (zh (zj (zg (zw (zj (zg (zn ?_))))))))
 cases F15
 exact zk [] [] Tryz.results158
 refine zi (zW (zd (za ?_)))
 refine zJ (zar C5 B6 hn_g3) ?_
 refine s_mv ?_
 refine zf ?_
 exact s_rn (fu,(g3+1)) ⟨by first | omega | (dsimp only;omega),F15,by first | omega | (dsimp only;omega)⟩
 refine zi (zd (zb (za ?_)))
 refine zG yA27 yS27 ?_
 refine zu yA25 ?_
 refine zu yA24 ?_
 refine s_mv ?_
 obtain ⟨v18,V18,F12⟩:=zc F11
 refine zv [] (ih_m_impl_rowsOk fu (by omega) _ _ _ _ _ V18) ?_
 refine zaG ?_
 refine zf (zd ?_)
 refine zm F12 ?_ ?_<;>intro C19 F13
 refine zb (za ?_)
 refine s_as ?_
 refine zf (zd (zh (zj (zg (zw (zj (zg (zn ?_))))))))
 cases F13
 exact zk [] [] Tryz.results158
 refine zi (zW (zd (za ?_)))
 refine zJ (zar C5 B6 hn_g3) ?_
 refine s_mv ?_
 refine zf ?_
 exact s_rn (fu,(g3+1)) ⟨by first | omega | (dsimp only;omega),F13,by first | omega | (dsimp only;omega)⟩
 iterate 7 refine r_no rfl ?_
 refine zy ?_
 refine zf (zd (zaZ rfl (zi (zd (zb (za ?_))))))
 refine zG yA27 yS27 ?_
 refine zu yA25 ?_
 refine zu yA24 ?_
 refine s_mv ?_
 obtain ⟨v20,V20,F9⟩:=zc F8
 refine zv [] (ih_m_impl_rowsOk fu (by omega) _ _ _ _ _ V20) ?_
 refine zaG ?_
 refine zf (zd ?_)
 refine zm F9 ?_ ?_<;>intro C21 F10
 refine zb (za ?_)
 refine s_as ?_
 refine zf (zd (zh (zj (zg (zw (zj (zg (zn ?_))))))))
 cases F10
 exact zk [] [] Tryz.results158
 refine zi (zW (zd (za ?_)))
 refine zJ (zar C5 B6 hn_g3) ?_
 refine s_mv ?_
 refine zf ?_
 exact s_rn (fu,(g3+1)) ⟨by first | omega | (dsimp only;omega),F10,by first | omega | (dsimp only;omega)⟩
 refine zz (zq (zp (zr (zd (zb (za ?_))))))
 refine s_as ?_
 refine zf (zd (zh (zn ?_)))
 cases F4
 exact zk [] [] Tryz.results158
theorem m_impl_rowsOk_all (fuel:Nat):zgA fuel:=by
 induction fuel using Nat.strongRecOn with
 | _ N ih =>
   cases N with
   | zero=>exact (by intro x1 x2 x3 x4 r h;rw [zc3] at h;cases h)
   | succ fu=>exact m_impl_rowsOk_st fu (fun k hk=>(ih k (by omega)))
theorem m_impl_rowsOk_ok (fuel:Nat):zgA fuel:=(m_impl_rowsOk_all fuel)
def m_impl_templateOk_AC (fuel:Nat):Prop:=∀ (x1:Form) (x2:(List Form)) (x3:(List Int)) (r:Bool),zdQ fuel x1 x2 x3=some r→AC Tryz.prog 103 [.ag [.t (.sc (.int .i64 x1.kind)),.t (.sc (.str x1.name)),.t (.sc (.int .i64 x1.n)),.t (.sl (x1.scopes.map rI)),.t (.sl (x1.kids.map Form.row))],.t (.sl (x2.map Form.row)),.t (.sl (x3.map rI))] noOb (.t (.sc (.bool r))) noOb
theorem zhO (fuel:Nat):m_impl_templateOk_AC fuel:=by
 intro x1 x2 x3 r F0
 unfold zdQ at F0
 refine AC_i [.t (.sc (.bool r))] Tryz.func103 rfl Tryz.ntmps103 ?_
 intro C hC
 refine zb (za ?_)
 refine zaN ?_
 refine s_as ?_
 refine zf (zd (zb (za ?_)))
 refine zG yA27 yS27 ?_
 obtain ⟨v1,V1,F1⟩:=zc F0
 refine zv [] (zbO fuel _ _ V1) ?_
 refine s_mv ?_
 refine zo _ 9 F1 ?_ ?_<;>intro C2 F2
 refine zG yA27 yS27 ?_
 obtain ⟨v3,V3,F3⟩:=zc F2
 refine zv [] (zbM fuel _ _ _ V3) ?_
 refine zaG ?_
 refine zA ?_
 refine s_mv ?_
 refine zo _ 14 F3 ?_ ?_<;>intro C4 F4
 refine zG yA27 yS27 ?_
 obtain ⟨v5,V5,F5⟩:=zc F4
 refine zv [] (m_impl_dotsOk_ok fuel _ _ _ V5) ?_
 refine zA ?_
 refine s_mv ?_
 refine zo _ 18 F5 ?_ ?_<;>intro C6 F6
 refine zG yA27 yS27 ?_
 refine s_mv ?_
 refine s_mv ?_
 obtain ⟨v7,V7,F7⟩:=zc F6
 refine zv [] (m_impl_rowsOk_ok fuel _ _ _ _ _ V7) ?_
 refine zA ?_
 refine s_as ?_
 refine zf (zd (zh (zn ?_)))
 cases F7
 exact zk [] [] Tryz.results103
 iterate 4 refine r_no rfl ?_
 refine zy ?_
 refine s_as ?_
 refine zf (zd (zh (zn ?_)))
 cases F6
 exact zk [] [] Tryz.results103
 refine r_no rfl (r_no rfl ?_)
 refine zy ?_
 refine s_mv ?_
 iterate 4 refine r_no rfl ?_
 refine zy ?_
 refine s_as ?_
 refine zf (zd (zh (zn ?_)))
 cases F4
 exact zk [] [] Tryz.results103
 iterate 3 refine r_no rfl ?_
 refine zy ?_
 refine s_mv ?_
 refine r_no rfl (r_no rfl ?_)
 refine zy ?_
 refine s_mv ?_
 iterate 4 refine r_no rfl ?_
 refine zy ?_
 refine s_as ?_
 refine zf (zd (zh (zn ?_)))
 cases F2
 exact zk [] [] Tryz.results103
def m_impl_RuleValid_AC (fuel:Nat):Prop:=∀ (x1:Rule) (x2:(List Form)) (r:Bool),zfk fuel x1 x2=some r→AC Tryz.prog 44 [.ag [.t (.sc (.int .i64 x1.pattern.kind)),.t (.sc (.str x1.pattern.name)),.t (.sc (.int .i64 x1.pattern.n)),.t (.sl (x1.pattern.scopes.map rI)),.t (.sl (x1.pattern.kids.map Form.row)),.t (.sc (.int .i64 x1.template.kind)),.t (.sc (.str x1.template.name)),.t (.sc (.int .i64 x1.template.n)),.t (.sl (x1.template.scopes.map rI)),.t (.sl (x1.template.kids.map Form.row))],.t (.sl (x2.map Form.row))] noOb (.t (.sc (.bool r))) noOb
theorem m_impl_RuleValid_ok (fuel:Nat):m_impl_RuleValid_AC fuel:=by
 intro x1 x2 r F0
 unfold zfk at F0
 refine AC_i [.t (.sc (.bool r))] Tryz.func44 rfl Tryz.ntmps44 ?_
 intro C hC
 refine zb (za ?_)
 refine zaN ?_
 refine s_as ?_
 refine zf (zd (zb (zb (za ?_))))
 refine s_fa zhX ?_
 refine zai yA27 yS27 ?_
 refine s_mv ?_
 obtain ⟨v1,V1,F1⟩:=zc F0
 refine zv [] (zhg fuel _ _ _ V1) ?_
 refine zaG ?_
 refine s_mv ?_
 refine zo _ 12 F1 ?_ ?_<;>intro C2 F2
 iterate 4 refine r_no rfl ?_
 refine zA ?_
 refine s_mv ?_
 iterate 5 refine r_no rfl ?_
 refine zA ?_
 refine zf (zd (zT rfl (zb (za ?_))))
 refine s_as ?_
 refine zf (zd (zh (zg (zn ?_))))
 cases F2
 exact zk [] [] Tryz.results44
 refine s_fa zhX ?_
 refine s_fa zc1 ?_
 refine zu yA3 ?_
 refine s_ne ?_
 refine zy ?_
 refine s_mv ?_
 refine zo _ 18 F2 ?_ ?_<;>intro C3 F3
 iterate 5 refine r_no rfl ?_
 refine zA ?_
 refine zf (zd (zT rfl (zb (za ?_))))
 refine s_as ?_
 refine zf (zd (zh (zg (zn ?_))))
 cases F3
 exact zk [] [] Tryz.results44
 refine s_fa zhX ?_
 refine s_fa zF ?_
 refine zu yA25 ?_
 refine zC yU25 ?_
 refine s_eq ?_
 refine zy ?_
 refine zf (zd ?_)
 refine zm F3 ?_ ?_<;>intro C4 F4
 refine zb (za ?_)
 refine s_as ?_
 refine zf (zd (zh (zg (zn ?_))))
 cases F4
 exact zk [] [] Tryz.results44
 refine zi (zd (zb (za ?_)))
 refine s_fa zhX ?_
 refine zai yA27 yS27 ?_
 refine s_mv ?_
 obtain ⟨v5,V5,F5⟩:=zc F4
 refine z4 [(9200,2029)] [] _ _ (zhJ fuel _ _ _ V5) ?_
 refine s_mv ?_
 refine za4 ?_
 refine za4 ?_
 refine s_as ?_
 refine s_as ?_
 refine zf (zd (zb (za ?_)))
 refine s_fa yF73_1 ?_
 refine zai yA27 yS27 ?_
 refine s_mv ?_
 refine s_mv ?_
 obtain ⟨v6,V6,F6⟩:=zc F5
 refine zv [2029] (zhO fuel _ _ _ _ V6) ?_
 refine s_as ?_
 refine zf (zd (zh (zn ?_)))
 cases F6
 exact zk [] [] Tryz.results44
def m_impl_rulesOk_1_AC (fuel:Nat):Prop:=∀ (x1:Rule) (o1:(List Form)) (r:Bool),zfh fuel x1 o1=some r→AC Tryz.prog 155 [.ag [.t (.sc (.int .i64 x1.pattern.kind)),.t (.sc (.str x1.pattern.name)),.t (.sc (.int .i64 x1.pattern.n)),.t (.sl (x1.pattern.scopes.map rI)),.t (.sl (x1.pattern.kids.map Form.row)),.t (.sc (.int .i64 x1.template.kind)),.t (.sc (.str x1.template.name)),.t (.sc (.int .i64 x1.template.n)),.t (.sl (x1.template.scopes.map rI)),.t (.sl (x1.template.kids.map Form.row))],.rf 9000 0] (objs [(9000,.box [.t (.sl (o1.map Form.row))])]) (.t (.sc (.bool r))) (objs [(9000,.box [.t (.sl (o1.map Form.row))])])
theorem m_impl_rulesOk_1_ok (fuel:Nat):m_impl_rulesOk_1_AC fuel:=by
 intro x1 o1 r F0
 unfold zfh at F0
 refine AC_i [.t (.sc (.bool r))] Tryz.func155 rfl Tryz.ntmps155 ?_
 intro C hC
 refine zb (za ?_)
 refine zaN ?_
 refine s_as ?_
 refine zf (zd (zb (za ?_)))
 refine zG yA73 yS73 ?_
 refine zu yA25 ?_
 obtain ⟨v1,V1,F1⟩:=zc F0
 refine zv [] (m_impl_RuleValid_ok fuel _ _ _ V1) ?_
 refine zaG ?_
 refine s_as ?_
 refine zf (zd (zh (zn ?_)))
 cases F1
 exact zk _ [] Tryz.results155
def zge (fuel:Nat):Prop:=∀ (x1:(List Rule)) (o1:(List Form)) (r:Int),zbE fuel x1 o1=some r→AC Tryz.prog 159 [.t (.sl (x1.map Rule.row)),.fn 155 [.rf 9000 0]] (objs [(9000,.box [.t (.sl (o1.map Form.row))])]) (.t (.sc (.int .i64 r))) (objs [(9000,.box [.t (.sl (o1.map Form.row))])])
theorem zgd (fuel:Nat):zge fuel:=by
 intro x1 o1 r F0
 unfold zbE at F0
 refine AC_i [.t (.sc (.int .i64 r))] Tryz.func159 rfl Tryz.ntmps159 ?_
 intro C hC
 refine zb (za ?_)
 refine s_as ?_
 refine zf (zd (zb (zb (za ?_))))
 refine s_mv ?_
 refine zC yU62 ?_
 refine s_mv ?_
 refine zf (zd (zl ?_))
 refine zaP (β:=Int) [4,5,8,9,10,11,12,13,14,15,16,17,18] [] [] (fun a=>[(8,.t (.sc (.int .i64 a.2)))]) (fun a=>[]) (fun a=>a.1≤fuel∧z9 a.1 x1 o1 a.2=some r∧0≤a.2) (fuel,0) ⟨Nat.le_refl _,F0,by simp⟩ ?_
 clear F0
 rintro ⟨fu,g1⟩ ⟨hl2,F1,hn_g1⟩
 dsimp only at hl2 F1 hn_g1 ⊢
 obtain _ | fu:=fu
 · rw [z9] at F1;cases F1
 rw [z9] at F1
 refine zb (za ?_)
 refine s_lt ?_
 refine zf (zd (zb ?_))
 refine zm F1 ?_ ?_<;>intro C3 F2
 refine zM 0 (fun B4=>?_)
 refine zi (zd (zb (zl (zb (za ?_)))))
 refine s_mv ?_
 refine s_as ?_
 refine zf (zd (zb (za ?_)))
 iterate 3 refine s_mv ?_
 obtain ⟨v5,V5,F3⟩:=zc F2
 refine zK Rule.row V5 (Rule.row_eq _) yE62 ?_
 refine zai yA73 yS73 ?_
 obtain ⟨v6,V6,F4⟩:=zc F3
 refine z4 [(9000,9000)] [] _ _ (m_impl_rulesOk_1_ok fu _ _ _ V6) ?_
 refine zf (zd ?_)
 refine zm F4 ?_ ?_<;>intro C7 F5
 refine zb (za ?_)
 refine s_mv ?_
 refine s_as ?_
 refine zf (zd (zh (zj (zg (zw (zj (zg (zn ?_))))))))
 cases F5
 exact zk _ [] Tryz.results159
 refine zi (zW (zd (za ?_)))
 refine zJ (zar C3 B4 hn_g1) ?_
 refine s_mv ?_
 refine zf ?_
 exact s_rn (fu,(g1+1)) ⟨by first | omega | (dsimp only;omega),F5,by first | omega | (dsimp only;omega)⟩
 refine zz (zq (zp (zr (zd (zb (za ?_))))))
 refine s_as ?_
 refine zf (zd (zh (zn ?_)))
 cases F2
 exact zk _ [] Tryz.results159
def zfP (fuel:Nat):Prop:=∀ (x1:(List Rule)) (o1:(List Form)) (r:Bool),zbg fuel x1 o1=some r→AC Tryz.prog 104 [.t (.sl (x1.map Rule.row)),.fn 155 [.rf 9000 0]] (objs [(9000,.box [.t (.sl (o1.map Form.row))])]) (.t (.sc (.bool r))) (objs [(9000,.box [.t (.sl (o1.map Form.row))])])
theorem zfO (fuel:Nat):zfP fuel:=by
 intro x1 o1 r F0
 unfold zbg at F0
 refine AC_i [.t (.sc (.bool r))] Tryz.func104 rfl Tryz.ntmps104 ?_
 intro C hC
 refine zb (za ?_)
 refine s_as ?_
 refine zf (zd (zb (za ?_)))
 refine s_mv ?_
 refine s_mv ?_
 obtain ⟨v1,V1,F1⟩:=zc F0
 refine z4 [(9000,9000)] [] _ _ (zgd fuel _ _ _ V1) ?_
 refine s_ge ?_
 refine s_as ?_
 refine zf (zd (zh (zn ?_)))
 cases F1
 exact zk _ [] Tryz.results104
def m_impl_rulesOk_AC (fuel:Nat):Prop:=∀ (x1:(List Rule)) (x2:(List Form)) (r:Bool),zgm fuel x1 x2=some r→AC Tryz.prog 98 [.t (.sl (x1.map Rule.row)),.t (.sl (x2.map Form.row))] noOb (.t (.sc (.bool r))) noOb
theorem m_impl_rulesOk_ok (fuel:Nat):m_impl_rulesOk_AC fuel:=by
 intro x1 x2 r F0
 unfold zgm at F0
 refine AC_i [.t (.sc (.bool r))] Tryz.func98 rfl Tryz.ntmps98 ?_
 intro C hC
 refine zb (za ?_)
 refine zaN ?_
 refine s_as ?_
 refine zf (zd (zb (za ?_)))
 refine s_mv ?_
 refine zC yU62 ?_
 refine s_le ?_
 refine s_mv ?_
 refine zo _ 8 F0 ?_ ?_<;>intro C1 F1
 refine zu yA25 ?_
 obtain ⟨v2,V2,F2⟩:=zc F1
 refine zv [] (zhP fuel _ _ V2) ?_
 refine zA ?_
 refine s_mv ?_
 refine zo _ 12 F2 ?_ ?_<;>intro C3 F3
 refine s_mv ?_
 refine s_fn ?_
 obtain ⟨v4,V4,F4⟩:=zc F3
 refine z4 [(9000,3)] [] _ _ (zfO fuel _ _ _ V4) ?_
 refine zaG ?_
 refine zA ?_
 refine s_as ?_
 refine zf (zd (zh (zn ?_)))
 cases F4
 exact zk [] [] Tryz.results98
 iterate 4 refine r_no rfl ?_
 refine zy ?_
 refine s_as ?_
 refine zf (zd (zh (zn ?_)))
 cases F3
 exact zk [] [] Tryz.results98
 refine r_no rfl (r_no rfl ?_)
 refine zy ?_
 refine s_mv ?_
 iterate 4 refine r_no rfl ?_
 refine zy ?_
 refine s_as ?_
 refine zf (zd (zh (zn ?_)))
 cases F1
 exact zk [] [] Tryz.results98
def m_impl_FirstRule_AC (fuel:Nat):Prop:=∀ (x1:(List Bind)) (x2:(List Rule)) (x3:(List Form)) (x4:Form) (r:(Int × Bool)),zeb fuel x1 x2 x3 x4=some r→AC Tryz.prog 38 [.t (.sl (x1.map Bind.row)),.t (.sl (x2.map Rule.row)),.t (.sl (x3.map Form.row)),.ag [.t (.sc (.int .i64 x4.kind)),.t (.sc (.str x4.name)),.t (.sc (.int .i64 x4.n)),.t (.sl (x4.scopes.map rI)),.t (.sl (x4.kids.map Form.row))]] noOb (.tp [.t (.sc (.int .i64 r.1)),.t (.sc (.bool r.2))]) noOb
theorem zh9 (fuel:Nat):m_impl_FirstRule_AC fuel:=by
 intro x1 x2 x3 x4 r F0
 unfold zeb at F0
 refine AC_i [.t (.sc (.int .i64 r.1)),.t (.sc (.bool r.2))] Tryz.func38 rfl Tryz.ntmps38 ?_
 intro C hC
 refine zb (za ?_)
 refine zaN ?_
 refine s_as ?_
 refine s_as ?_
 refine zf (zd (zb ?_))
 refine za2 (α:=Nat × Bool) [14,15,16,17,18,19,20,21,22,23,24,25,26,27] [] [] (fun a=>[(27,.t (.sc (.bool a.2)))]) (fun a=>[]) (fun a=>a.1≤fuel∧zbo a.1 x1 x2 x3 x4 a.2=some r) ?_ ?_
 refine za ?_
 refine s_mv ?_
 obtain ⟨v1,V1,F1⟩:=zc F0
 refine zv [] (zew fuel _ _ V1) ?_
 refine zaG ?_
 refine s_mv ?_
 refine zo _ 17 F1 ?_ ?_<;>intro C2 F2
 iterate 4 refine r_no rfl ?_
 refine zA ?_
 refine s_mv ?_
 iterate 3 refine r_no rfl ?_
 refine zA ?_
 refine zf ?_
 exact s_jn (fuel,true) ⟨by first | omega | (dsimp only;omega),F2⟩
 refine s_mv ?_
 refine s_mv ?_
 obtain ⟨v3,V3,F3⟩:=zc F2
 refine zv [] (m_impl_rulesOk_ok fuel _ _ _ V3) ?_
 refine zaG ?_
 refine zy ?_
 refine s_mv ?_
 refine zo _ 23 F3 ?_ ?_<;>intro C4 F4
 iterate 3 refine r_no rfl ?_
 refine zA ?_
 refine zf ?_
 exact s_jn (fuel,true) ⟨by first | omega | (dsimp only;omega),F4⟩
 refine zG yA27 yS27 ?_
 obtain ⟨v5,V5,F5⟩:=zc F4
 refine zv [] (zbO fuel _ _ V5) ?_
 refine zaG ?_
 refine zy ?_
 refine zf ?_
 exact s_jn (fuel,(!v5)) ⟨by first | omega | (dsimp only;omega),F5⟩
 clear F0
 rintro ⟨fu,g6⟩ ⟨hl7,F1⟩
 dsimp only at hl7 F1 ⊢
 obtain _ | fu:=fu
 · rw [zbo] at F1;cases F1
 rw [zbo] at F1
 refine zm F1 ?_ ?_<;>intro C8 F2
 refine zb (za ?_)
 refine s_as ?_
 refine s_as ?_
 refine zf (zd (zh (zg (zn ?_))))
 cases F2
 exact zk [] [] Tryz.results38
 refine zi (zd (zb (zb (za ?_))))
 refine s_mv ?_
 refine zC yU62 ?_
 refine s_mv ?_
 refine zf (zd (zl ?_))
 refine zaP (β:=Int) [8,9,10,11,12,13,30,31,32,33,34,35,36,37,38,39,40,41,42,43,44,45,46] [] [11] (fun a=>[(30,.t (.sc (.int .i64 a.2)))]) (fun a=>[]) (fun a=>a.1≤fu∧zch a.1 x1 x2 x3 x4 a.2=some r∧0≤a.2) (fu,0) ⟨Nat.le_refl _,F2,by simp⟩ ?_
 clear F2
 rintro ⟨fu,g9⟩ ⟨hl10,F3,hn_g9⟩
 dsimp only at hl10 F3 hn_g9 ⊢
 obtain _ | fu:=fu
 · rw [zch] at F3;cases F3
 rw [zch] at F3
 refine zb (za ?_)
 refine s_lt ?_
 refine zf (zd (zb ?_))
 refine zm F3 ?_ ?_<;>intro C11 F4
 refine zM 1 (fun B12=>?_)
 refine zi (zd (zb (zl (zb (za ?_)))))
 refine s_mv ?_
 obtain ⟨v13,V13,F5⟩:=zc F4
 refine zK Rule.row V13 (Rule.row_eq _) yE62 ?_
 refine zai yA73 yS73 ?_
 refine zU yZ73 ?_
 refine s_as ?_
 refine zab yS73 ?_
 refine zf (zd (zb (za ?_)))
 refine s_mv ?_
 refine s_fa zhX ?_
 refine zai yA27 yS27 ?_
 refine s_mv ?_
 refine zG yA27 yS27 ?_
 obtain ⟨v14,V14,F6⟩:=zc F5
 refine zv [] (zh5 fu _ _ _ _ _ V14) ?_
 refine s_mv ?_
 refine za4 ?_
 refine za4 ?_
 refine s_as ?_
 refine s_as ?_
 refine zf (zd (zb (za ?_)))
 refine s_mv ?_
 refine zf (zd ?_)
 refine zm F6 ?_ ?_<;>intro C15 F7
 refine zb (za ?_)
 refine s_mv ?_
 refine s_as ?_
 refine s_as ?_
 refine zf (zd (zh (zj (zg (zw (zj (zg (zn ?_))))))))
 cases F7
 exact zk [] [] Tryz.results38
 refine zi (zW (zd (za ?_)))
 refine zJ (zar C11 B12 hn_g9) ?_
 refine s_mv ?_
 refine zf ?_
 exact s_rn (fu,(g9+1)) ⟨by first | omega | (dsimp only;omega),F7,by first | omega | (dsimp only;omega)⟩
 refine zz (zq (zp (zr (zd (zb (za ?_))))))
 refine s_as ?_
 refine s_as ?_
 refine zf (zd (zh (zn ?_)))
 cases F4
 exact zk [] [] Tryz.results38
def m_spec_l5Texts_AC (fuel:Nat):Prop:=∀  (r:(List (List ByteArray))),zhn fuel =some r→AC Tryz.prog 156 [] noOb (.t (.sl (r.map (rL rS)))) noOb
theorem m_spec_l5Texts_ok (fuel:Nat):m_spec_l5Texts_AC fuel:=by
 intro  r F0
 unfold zhn at F0
 refine AC_i [.t (.sl (r.map (rL rS)))] Tryz.func156 rfl Tryz.ntmps156 ?_
 intro C hC
 refine zb (za ?_)
 refine s_as ?_
 refine zf (zd (zb (za ?_)))
 refine s_bs rS [(⟨#[40,114,117,108,101,115,32,40,41,32,40,40,95,32,97,32,98,41,32,40,108,101,116,32,40,40,116,109,112,32,97,41,41,32,40,108,105,115,116,32,98,32,116,109,112,41,41,41,41]⟩:ByteArray),(⟨#[40,115,119,97,112,32,120,32,121,41]⟩:ByteArray)] yP36 yR9 ?_
 refine s_bs rS [(⟨#[40,114,117,108,101,115,32,40,41,32,40,40,95,41,32,48,41,32,40,40,95,32,97,41,32,97,41,32,40,40,95,32,97,32,98,32,46,46,46,41,32,40,105,102,32,97,32,49,32,40,111,114,32,98,32,46,46,46,41,41,41,41]⟩:ByteArray),(⟨#[40,111,114,32,120,32,121,32,122,41]⟩:ByteArray)] yP36 yR9 ?_
 refine s_bs rS [(⟨#[40,114,117,108,101,115,32,40,41,32,40,40,95,32,40,40,120,32,118,41,32,46,46,46,41,32,98,111,100,121,41,32,40,40,108,97,109,98,100,97,32,40,120,32,46,46,46,41,32,98,111,100,121,41,32,118,32,46,46,46,41,41,41]⟩:ByteArray),(⟨#[40,109,121,108,101,116,32,40,40,112,32,49,41,32,40,113,32,50,41,41,32,40,102,32,112,32,113,41,41]⟩:ByteArray)] yP36 yR9 ?_
 refine s_bs rS [(⟨#[40,114,117,108,101,115,32,40,101,108,115,101,41,32,40,40,95,32,101,108,115,101,32,101,41,32,101,41,32,40,40,95,32,99,32,101,32,114,32,46,46,46,41,32,40,105,102,32,99,32,101,32,40,99,111,110,100,32,114,32,46,46,46,41,41,41,41]⟩:ByteArray),(⟨#[40,99,111,110,100,32,112,32,49,32,101,108,115,101,32,50,41]⟩:ByteArray)] yP36 yR9 ?_
 refine s_bs rS [(⟨#[40,114,117,108,101,115,32,40,41,32,40,40,95,32,40,97,32,98,32,46,46,46,41,32,46,46,46,41,32,40,109,32,40,97,32,46,46,46,41,32,40,40,97,32,98,32,46,46,46,41,32,46,46,46,41,32,49,41,41,41]⟩:ByteArray),(⟨#[40,109,32,40,120,32,49,32,50,41,32,40,121,41,41]⟩:ByteArray)] yP36 yR9 ?_
 refine s_bs rS [(⟨#[40,114,117,108,101,115,32,40,41,32,40,40,95,32,97,32,46,46,46,41,32,40,108,105,115,116,32,97,32,46,46,46,32,97,32,46,46,46,41,41,41]⟩:ByteArray),(⟨#[40,116,119,105,99,101,32,49,32,50,41]⟩:ByteArray)] yP36 yR9 ?_
 refine s_bs rS [(⟨#[40,114,117,108,101,115,32,40,41,32,40,40,95,32,97,32,46,46,46,41,32,40,40,97,32,49,41,32,46,46,46,41,41,32,40,40,95,32,98,41,32,98,41,41]⟩:ByteArray),(⟨#[40,112,97,105,114,115,32,112,32,113,41]⟩:ByteArray)] yP36 yR9 ?_
 refine s_bs rS [(⟨#[40,114,117,108,101,115,32,40,41,32,40,40,95,32,97,41,32,97,41,32,40,40,95,32,53,41,32,54,41,32,40,40,95,32,97,32,98,41,32,98,41,41]⟩:ByteArray),(⟨#[40,107,32,53,41]⟩:ByteArray)] yP36 yR9 ?_
 refine s_bs (rL rS) [[(⟨#[40,114,117,108,101,115,32,40,41,32,40,40,95,32,97,32,98,41,32,40,108,101,116,32,40,40,116,109,112,32,97,41,41,32,40,108,105,115,116,32,98,32,116,109,112,41,41,41,41]⟩:ByteArray),(⟨#[40,115,119,97,112,32,120,32,121,41]⟩:ByteArray)],[(⟨#[40,114,117,108,101,115,32,40,41,32,40,40,95,41,32,48,41,32,40,40,95,32,97,41,32,97,41,32,40,40,95,32,97,32,98,32,46,46,46,41,32,40,105,102,32,97,32,49,32,40,111,114,32,98,32,46,46,46,41,41,41,41]⟩:ByteArray),(⟨#[40,111,114,32,120,32,121,32,122,41]⟩:ByteArray)],[(⟨#[40,114,117,108,101,115,32,40,41,32,40,40,95,32,40,40,120,32,118,41,32,46,46,46,41,32,98,111,100,121,41,32,40,40,108,97,109,98,100,97,32,40,120,32,46,46,46,41,32,98,111,100,121,41,32,118,32,46,46,46,41,41,41]⟩:ByteArray),(⟨#[40,109,121,108,101,116,32,40,40,112,32,49,41,32,40,113,32,50,41,41,32,40,102,32,112,32,113,41,41]⟩:ByteArray)],[(⟨#[40,114,117,108,101,115,32,40,101,108,115,101,41,32,40,40,95,32,101,108,115,101,32,101,41,32,101,41,32,40,40,95,32,99,32,101,32,114,32,46,46,46,41,32,40,105,102,32,99,32,101,32,40,99,111,110,100,32,114,32,46,46,46,41,41,41,41]⟩:ByteArray),(⟨#[40,99,111,110,100,32,112,32,49,32,101,108,115,101,32,50,41]⟩:ByteArray)],[(⟨#[40,114,117,108,101,115,32,40,41,32,40,40,95,32,40,97,32,98,32,46,46,46,41,32,46,46,46,41,32,40,109,32,40,97,32,46,46,46,41,32,40,40,97,32,98,32,46,46,46,41,32,46,46,46,41,32,49,41,41,41]⟩:ByteArray),(⟨#[40,109,32,40,120,32,49,32,50,41,32,40,121,41,41]⟩:ByteArray)],[(⟨#[40,114,117,108,101,115,32,40,41,32,40,40,95,32,97,32,46,46,46,41,32,40,108,105,115,116,32,97,32,46,46,46,32,97,32,46,46,46,41,41,41]⟩:ByteArray),(⟨#[40,116,119,105,99,101,32,49,32,50,41]⟩:ByteArray)],[(⟨#[40,114,117,108,101,115,32,40,41,32,40,40,95,32,97,32,46,46,46,41,32,40,40,97,32,49,41,32,46,46,46,41,41,32,40,40,95,32,98,41,32,98,41,41]⟩:ByteArray),(⟨#[40,112,97,105,114,115,32,112,32,113,41]⟩:ByteArray)],[(⟨#[40,114,117,108,101,115,32,40,41,32,40,40,95,32,97,41,32,97,41,32,40,40,95,32,53,41,32,54,41,32,40,40,95,32,97,32,98,41,32,98,41,41]⟩:ByteArray),(⟨#[40,107,32,53,41]⟩:ByteArray)]] yP140 yR36 ?_
 refine s_as ?_
 refine zf (zd (zh (zn ?_)))
 cases F0
 exact zk [] [9] Tryz.results156
end Go.Abs
