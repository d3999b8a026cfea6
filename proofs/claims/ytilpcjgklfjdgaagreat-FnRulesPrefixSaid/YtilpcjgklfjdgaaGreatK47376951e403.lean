/- A part of the proof: what the functions that the law calls answer, as pure values. -/
import Derived.Test.YtilpcjgklfjdgaaGreatKbeececb3b691
import Derived.Test.YtilpcjgklfjdgaaGreatKe5b598c0b17e
import Derived.Test.YtilpcjgklfjdgaaGreatK349a5dde2cfa
import Derived.Test.YtilpcjgklfjdgaaGreatKdfd114e1f3bb
import Derived.Test.YtilpcjgklfjdgaaGreatK5bebff7b483b
import Derived.Test.YtilpcjgklfjdgaaGreatK25b6b0d87810
import Derived.Test.YtilpcjgklfjdgaaGreatK944daf6655d5
set_option linter.unusedSimpArgs false
set_option linter.unusedVariables false
set_option maxRecDepth 100000
set_option maxHeartbeats 4000000
namespace Go.Abs
open Go.Proofs
def m_impl_BindsValid_1_AC (fuel:Nat):Prop:=∀ (x1:Bind) (o1:Bind) (r:Bool),zdZ fuel x1 o1=some r→AC Tryz.prog 114 [.ag [.t (.sc (.str x1.name)),.t (.sl (x1.scopes.map rI)),.t (.sc (.int .i64 x1.id))],.rf 9000 0] (objs [(9000,.box [.t (.sc (.str o1.name)),.t (.sl (o1.scopes.map rI)),.t (.sc (.int .i64 o1.id))])]) (.t (.sc (.bool r))) (objs [(9000,.box [.t (.sc (.str o1.name)),.t (.sl (o1.scopes.map rI)),.t (.sc (.int .i64 o1.id))])])
theorem m_impl_BindsValid_1_ok (fuel:Nat):m_impl_BindsValid_1_AC fuel:=by
 intro x1 o1 r F0
 unfold zdZ at F0
 refine AC_i [.t (.sc (.bool r))] Tryz.func114 rfl Tryz.ntmps114 ?_
 intro C hC
 refine zb (za ?_)
 refine zaL ?_
 refine s_as ?_
 refine zf (zd (zb (za ?_)))
 refine s_fa yF117_0 ?_
 refine zu yA9 ?_
 refine s_fa yF117_0 ?_
 refine zu yA9 ?_
 refine zhr ?_
 refine s_mv ?_
 refine zp _ 9 F0 ?_ ?_<;>intro C1 F1
 refine s_fa zhB ?_
 refine zu yA27 ?_
 refine s_fa zhB ?_
 refine zu yA27 ?_
 obtain ⟨v2,V2,F2⟩:=zc F1
 refine zv [] (zhv fuel _ _ _ V2) ?_
 refine zA ?_
 refine s_as ?_
 refine zf (zd (zh (zn ?_)))
 cases F2
 exact zk _ [] Tryz.results114
 iterate 5 refine r_no rfl ?_
 refine zz ?_
 refine s_as ?_
 refine zf (zd (zh (zn ?_)))
 cases F1
 exact zk _ [] Tryz.results114
def zfJ (fuel:Nat):Prop:=∀ (x1:(List Bind)) (o1:Bind) (r:Int),zbc fuel x1 o1=some r→AC Tryz.prog 147 [.t (.sl (x1.map Bind.row)),.fn 114 [.rf 9000 0]] (objs [(9000,.box [.t (.sc (.str o1.name)),.t (.sl (o1.scopes.map rI)),.t (.sc (.int .i64 o1.id))])]) (.t (.sc (.int .i64 r))) (objs [(9000,.box [.t (.sc (.str o1.name)),.t (.sl (o1.scopes.map rI)),.t (.sc (.int .i64 o1.id))])])
theorem zfI (fuel:Nat):zfJ fuel:=by
 intro x1 o1 r F0
 unfold zbc at F0
 refine AC_i [.t (.sc (.int .i64 r))] Tryz.func147 rfl Tryz.ntmps147 ?_
 intro C hC
 refine zb (za ?_)
 refine s_as ?_
 refine zf (zd (zb (zb (za ?_))))
 refine s_mv ?_
 refine zC yU30 ?_
 refine s_mv ?_
 refine zf (zd (zl ?_))
 refine zaK (β:=Int) [4,5,8,9,10,11,12,13,14,15,16,17,18] [] [] (fun a=>[(8,.t (.sc (.int .i64 a.2)))]) (fun a=>[]) (fun a=>a.1≤fuel∧z5 a.1 x1 o1 a.2=some r∧0≤a.2) (fuel,0) ⟨Nat.le_refl _,F0,by simp⟩ ?_
 clear F0
 rintro ⟨fu,g1⟩ ⟨hl2,F1,hn_g1⟩
 dsimp only at hl2 F1 hn_g1 ⊢
 obtain _ | fu:=fu
 · rw [z5] at F1;cases F1
 rw [z5] at F1
 refine zb (za ?_)
 refine s_lt ?_
 refine zf (zd (zb ?_))
 refine zm F1 ?_ ?_<;>intro C3 F2
 refine zM 0 (fun B4=>?_)
 refine zi (zd (zb (zl (zb (za ?_)))))
 refine s_mv ?_
 refine s_as ?_
 refine zf (zd (zb (za ?_)))
 iterate 3 refine s_mv ?_
 obtain ⟨v5,V5,F3⟩:=zc F2
 refine zK Bind.row V5 (Bind.row_eq _) yE30 ?_
 refine zam yA117 yS117 ?_
 obtain ⟨v6,V6,F4⟩:=zc F3
 refine zY [(9000,9000)] [] _ _ (m_impl_BindsValid_1_ok fu _ _ _ V6) ?_
 refine zf (zd ?_)
 refine zm F4 ?_ ?_<;>intro C7 F5
 refine zb (za ?_)
 refine s_mv ?_
 refine s_as ?_
 refine zf (zd (zh (zj (zg (zw (zj (zg (zn ?_))))))))
 cases F5
 exact zk _ [] Tryz.results147
 refine zi (zW (zd (za ?_)))
 refine zJ (zas C3 B4 hn_g1) ?_
 refine s_mv ?_
 refine zf ?_
 exact s_rn (fu,(g1+1)) ⟨by first | omega | (dsimp only;omega),F5,by first | omega | (dsimp only;omega)⟩
 refine zy (zq (zo (zr (zd (zb (za ?_))))))
 refine s_as ?_
 refine zf (zd (zh (zn ?_)))
 cases F2
 exact zk _ [] Tryz.results147
def zfc (fuel:Nat):Prop:=∀ (x1:(List Bind)) (o1:Bind) (r:Bool),zaR fuel x1 o1=some r→AC Tryz.prog 113 [.t (.sl (x1.map Bind.row)),.fn 114 [.rf 9000 0]] (objs [(9000,.box [.t (.sc (.str o1.name)),.t (.sl (o1.scopes.map rI)),.t (.sc (.int .i64 o1.id))])]) (.t (.sc (.bool r))) (objs [(9000,.box [.t (.sc (.str o1.name)),.t (.sl (o1.scopes.map rI)),.t (.sc (.int .i64 o1.id))])])
theorem zfb (fuel:Nat):zfc fuel:=by
 intro x1 o1 r F0
 unfold zaR at F0
 refine AC_i [.t (.sc (.bool r))] Tryz.func113 rfl Tryz.ntmps113 ?_
 intro C hC
 refine zb (za ?_)
 refine s_as ?_
 refine zf (zd (zb (za ?_)))
 refine s_mv ?_
 refine s_mv ?_
 obtain ⟨v1,V1,F1⟩:=zc F0
 refine zY [(9000,9000)] [] _ _ (zfI fuel _ _ _ V1) ?_
 refine s_ge ?_
 refine s_as ?_
 refine zf (zd (zh (zn ?_)))
 cases F1
 exact zk _ [] Tryz.results113
def m_impl_BindsValid_AC (fuel:Nat):Prop:=∀ (x1:(List Bind)) (r:Bool),zcW fuel x1=some r→AC Tryz.prog 56 [.t (.sl (x1.map Bind.row))] noOb (.t (.sc (.bool r))) noOb
theorem zf4 (fuel:Nat):m_impl_BindsValid_AC fuel:=by
 intro x1 r F0
 unfold zcW at F0
 refine AC_i [.t (.sc (.bool r))] Tryz.func56 rfl Tryz.ntmps56 ?_
 intro C hC
 refine zb (za ?_)
 refine s_as ?_
 refine zf (zd (zb (zb (za ?_))))
 refine s_mv ?_
 refine zC yU30 ?_
 refine s_mv ?_
 refine zf (zd (zl ?_))
 refine zaK (β:=Int) [2,3,4,7,8,9,10,11,12,13,14,15,16,17,18,19,20,21,22,23,24,25,26,27,28,29,30,31,32,33] [] [4] (fun a=>[(7,.t (.sc (.int .i64 a.2)))]) (fun a=>[]) (fun a=>a.1≤fuel∧zbz a.1 x1 a.2=some r∧0≤a.2) (fuel,0) ⟨Nat.le_refl _,F0,by simp⟩ ?_
 clear F0
 rintro ⟨fu,g1⟩ ⟨hl2,F1,hn_g1⟩
 dsimp only at hl2 F1 hn_g1 ⊢
 obtain _ | fu:=fu
 · rw [zbz] at F1;cases F1
 rw [zbz] at F1
 refine zb (za ?_)
 refine s_lt ?_
 refine zf (zd (zb ?_))
 refine zm F1 ?_ ?_<;>intro C3 F2
 refine zM 0 (fun B4=>?_)
 refine zi (zd (zb (zl (zb (za ?_)))))
 refine s_mv ?_
 obtain ⟨v5,V5,F3⟩:=zc F2
 refine zK Bind.row V5 (Bind.row_eq _) yE30 ?_
 refine zam yA117 yS117 ?_
 refine zU yZ117 ?_
 refine s_as ?_
 refine zac yS117 ?_
 refine zf (zd (zb ?_))
 refine zbb (α:=Nat × Bool) [12,13,14,15,16,17,18,19,20,21,22,23,24,25,26,27] [] [] (fun a=>[(27,.t (.sc (.bool a.2)))]) (fun a=>[]) (fun a=>a.1≤fu∧za6 a.1 x1 g1 v5 a.2=some r) ?_ ?_
 refine za ?_
 refine s_fa yF117_0 ?_
 refine zu yA9 ?_
 obtain ⟨v6,V6,F4⟩:=zc F3
 refine zv [] (zh2 fu _ _ V6) ?_
 refine zaY ?_
 refine s_mv ?_
 refine zp _ 16 F4 ?_ ?_<;>intro C7 F5
 iterate 4 refine r_no rfl ?_
 refine zA ?_
 refine s_mv ?_
 iterate 4 refine r_no rfl ?_
 refine zA ?_
 refine zf ?_
 exact s_jn (fu,true) ⟨by first | omega | (dsimp only;omega),F5⟩
 refine s_fa zhB ?_
 refine zu yA27 ?_
 obtain ⟨v8,V8,F6⟩:=zc F5
 refine zv [] (zik fu _ _ V8) ?_
 refine zaY ?_
 refine zz ?_
 refine s_mv ?_
 refine zp _ 22 F6 ?_ ?_<;>intro C9 F7
 iterate 4 refine r_no rfl ?_
 refine zA ?_
 refine zf ?_
 exact s_jn (fu,true) ⟨by first | omega | (dsimp only;omega),F7⟩
 refine s_fa yF117_2 ?_
 refine zu yA3 ?_
 obtain ⟨v10,V10,F8⟩:=zc F7
 refine zv [] (zfd fu _ _ _ _ V10) ?_
 refine zaY ?_
 refine zz ?_
 refine zf ?_
 exact s_jn (fu,(!v10)) ⟨by first | omega | (dsimp only;omega),F8⟩
 clear F3
 rintro ⟨fu,g11⟩ ⟨hl12,F4⟩
 dsimp only at hl12 F4 ⊢
 obtain _ | fu:=fu
 · rw [za6] at F4;cases F4
 rw [za6] at F4
 refine zm F4 ?_ ?_<;>intro C13 F5
 refine zb (za ?_)
 refine s_as ?_
 refine zf (zd (zh (zg (zj (zg (zw (zj (zg (zn ?_)))))))))
 cases F5
 exact zk [] [] Tryz.results56
 refine zi (zd (zb (za ?_)))
 refine s_mv ?_
 refine s_mv ?_
 obtain ⟨v14,V14,F6⟩:=zc F5
 refine s_sl01 Bind.row (fun y=>Bind.row_len y) V14 yU30 yE30 ?_
 refine s_fn ?_
 obtain ⟨v15,V15,F7⟩:=zc F6
 refine zY [(9000,4)] [] _ _ (zfb fu _ _ _ V15) ?_
 refine zf (zd ?_)
 refine zm F7 ?_ ?_<;>intro C16 F8
 refine zb (za ?_)
 refine s_as ?_
 refine zf (zd (zh (zj (zg (zw (zj (zg (zn ?_))))))))
 cases F8
 exact zk [] [] Tryz.results56
 refine zi (zW (zd (za ?_)))
 refine zJ (zas C3 B4 hn_g1) ?_
 refine s_mv ?_
 refine zf ?_
 exact s_rn (fu,(g1+1)) ⟨by first | omega | (dsimp only;omega),F8,by first | omega | (dsimp only;omega)⟩
 refine zy (zq (zo (zr (zd (zb (za ?_))))))
 refine s_mv ?_
 refine zC yU30 ?_
 refine s_le ?_
 refine s_as ?_
 refine zf (zd (zh (zn ?_)))
 cases F2
 exact zk [] [] Tryz.results56
def m_impl_isIn_1_AC (fuel:Nat):Prop:=∀ (x1:Form) (o1:Form) (r:Bool),zg5 fuel x1 o1=some r→AC Tryz.prog 127 [.ag [.t (.sc (.int .i64 x1.kind)),.t (.sc (.str x1.name)),.t (.sc (.int .i64 x1.n)),.t (.sl (x1.scopes.map rI)),.t (.sl (x1.kids.map Form.row))],.rf 9000 0] (objs [(9000,.box [.t (.sc (.int .i64 o1.kind)),.t (.sc (.str o1.name)),.t (.sc (.int .i64 o1.n)),.t (.sl (o1.scopes.map rI)),.t (.sl (o1.kids.map Form.row))])]) (.t (.sc (.bool r))) (objs [(9000,.box [.t (.sc (.int .i64 o1.kind)),.t (.sc (.str o1.name)),.t (.sc (.int .i64 o1.n)),.t (.sl (o1.scopes.map rI)),.t (.sl (o1.kids.map Form.row))])])
theorem m_impl_isIn_1_ok (fuel:Nat):m_impl_isIn_1_AC fuel:=by
 intro x1 o1 r F0
 unfold zg5 at F0
 refine AC_i [.t (.sc (.bool r))] Tryz.func127 rfl Tryz.ntmps127 ?_
 intro C hC
 refine zb (za ?_)
 refine zaL ?_
 refine s_as ?_
 refine zf (zd (zb (za ?_)))
 refine zI yA32 yS32 ?_
 refine zI yA32 yS32 ?_
 obtain ⟨v1,V1,F1⟩:=zc F0
 refine zv [] (zaU fuel _ _ _ V1) ?_
 refine s_as ?_
 refine zf (zd (zh (zn ?_)))
 cases F1
 exact zk _ [] Tryz.results127
def zg3 (fuel:Nat):Prop:=∀ (x1:(List Form)) (o1:Form) (r:Int),zbZ fuel x1 o1=some r→AC Tryz.prog 130 [.t (.sl (x1.map Form.row)),.fn 127 [.rf 9000 0]] (objs [(9000,.box [.t (.sc (.int .i64 o1.kind)),.t (.sc (.str o1.name)),.t (.sc (.int .i64 o1.n)),.t (.sl (o1.scopes.map rI)),.t (.sl (o1.kids.map Form.row))])]) (.t (.sc (.int .i64 r))) (objs [(9000,.box [.t (.sc (.int .i64 o1.kind)),.t (.sc (.str o1.name)),.t (.sc (.int .i64 o1.n)),.t (.sl (o1.scopes.map rI)),.t (.sl (o1.kids.map Form.row))])])
theorem zg2 (fuel:Nat):zg3 fuel:=by
 intro x1 o1 r F0
 unfold zbZ at F0
 refine AC_i [.t (.sc (.int .i64 r))] Tryz.func130 rfl Tryz.ntmps130 ?_
 intro C hC
 refine zb (za ?_)
 refine s_as ?_
 refine zf (zd (zb (zb (za ?_))))
 refine s_mv ?_
 refine zC yU24 ?_
 refine s_mv ?_
 refine zf (zd (zl ?_))
 refine zaK (β:=Int) [4,5,8,9,10,11,12,13,14,15,16,17,18] [] [] (fun a=>[(8,.t (.sc (.int .i64 a.2)))]) (fun a=>[]) (fun a=>a.1≤fuel∧zap a.1 x1 o1 a.2=some r∧0≤a.2) (fuel,0) ⟨Nat.le_refl _,F0,by simp⟩ ?_
 clear F0
 rintro ⟨fu,g1⟩ ⟨hl2,F1,hn_g1⟩
 dsimp only at hl2 F1 hn_g1 ⊢
 obtain _ | fu:=fu
 · rw [zap] at F1;cases F1
 rw [zap] at F1
 refine zb (za ?_)
 refine s_lt ?_
 refine zf (zd (zb ?_))
 refine zm F1 ?_ ?_<;>intro C3 F2
 refine zM 0 (fun B4=>?_)
 refine zi (zd (zb (zl (zb (za ?_)))))
 refine s_mv ?_
 refine s_as ?_
 refine zf (zd (zb (za ?_)))
 iterate 3 refine s_mv ?_
 obtain ⟨v5,V5,F3⟩:=zc F2
 refine zK Form.row V5 (Form.row_eq _) yE24 ?_
 refine zam yA32 yS32 ?_
 obtain ⟨v6,V6,F4⟩:=zc F3
 refine zY [(9000,9000)] [] _ _ (m_impl_isIn_1_ok fu _ _ _ V6) ?_
 refine zf (zd ?_)
 refine zm F4 ?_ ?_<;>intro C7 F5
 refine zb (za ?_)
 refine s_mv ?_
 refine s_as ?_
 refine zf (zd (zh (zj (zg (zw (zj (zg (zn ?_))))))))
 cases F5
 exact zk _ [] Tryz.results130
 refine zi (zW (zd (za ?_)))
 refine zJ (zas C3 B4 hn_g1) ?_
 refine s_mv ?_
 refine zf ?_
 exact s_rn (fu,(g1+1)) ⟨by first | omega | (dsimp only;omega),F5,by first | omega | (dsimp only;omega)⟩
 refine zy (zq (zo (zr (zd (zb (za ?_))))))
 refine s_as ?_
 refine zf (zd (zh (zn ?_)))
 cases F2
 exact zk _ [] Tryz.results130
def zgi (fuel:Nat):Prop:=∀ (x1:(List Form)) (o1:Form) (r:Bool),zbF fuel x1 o1=some r→AC Tryz.prog 126 [.t (.sl (x1.map Form.row)),.fn 127 [.rf 9000 0]] (objs [(9000,.box [.t (.sc (.int .i64 o1.kind)),.t (.sc (.str o1.name)),.t (.sc (.int .i64 o1.n)),.t (.sl (o1.scopes.map rI)),.t (.sl (o1.kids.map Form.row))])]) (.t (.sc (.bool r))) (objs [(9000,.box [.t (.sc (.int .i64 o1.kind)),.t (.sc (.str o1.name)),.t (.sc (.int .i64 o1.n)),.t (.sl (o1.scopes.map rI)),.t (.sl (o1.kids.map Form.row))])])
theorem zgh (fuel:Nat):zgi fuel:=by
 intro x1 o1 r F0
 unfold zbF at F0
 refine AC_i [.t (.sc (.bool r))] Tryz.func126 rfl Tryz.ntmps126 ?_
 intro C hC
 refine zb (za ?_)
 refine s_as ?_
 refine zf (zd (zb (za ?_)))
 refine s_mv ?_
 refine s_mv ?_
 obtain ⟨v1,V1,F1⟩:=zc F0
 refine zY [(9000,9000)] [] _ _ (zg2 fuel _ _ _ V1) ?_
 refine s_ge ?_
 refine s_as ?_
 refine zf (zd (zh (zn ?_)))
 cases F1
 exact zk _ [] Tryz.results126
def m_impl_isIn_AC (fuel:Nat):Prop:=∀ (x1:(List Form)) (x2:Form) (r:Bool),zfO fuel x1 x2=some r→AC Tryz.prog 77 [.t (.sl (x1.map Form.row)),.ag [.t (.sc (.int .i64 x2.kind)),.t (.sc (.str x2.name)),.t (.sc (.int .i64 x2.n)),.t (.sl (x2.scopes.map rI)),.t (.sl (x2.kids.map Form.row))]] noOb (.t (.sc (.bool r))) noOb
theorem zhn (fuel:Nat):m_impl_isIn_AC fuel:=by
 intro x1 x2 r F0
 unfold zfO at F0
 refine AC_i [.t (.sc (.bool r))] Tryz.func77 rfl Tryz.ntmps77 ?_
 intro C hC
 refine zb (za ?_)
 refine zaL ?_
 refine s_as ?_
 refine zf (zd (zb (za ?_)))
 refine s_mv ?_
 refine s_fn ?_
 obtain ⟨v1,V1,F1⟩:=zc F0
 refine zY [(9000,3)] [] _ _ (zgh fuel _ _ _ V1) ?_
 refine s_as ?_
 refine zf (zd (zh (zn ?_)))
 cases F1
 exact zk [] [] Tryz.results77
def m_impl_literalsOk_AC (fuel:Nat):Prop:=∀ (x1:(List Form)) (r:Bool),zdQ fuel x1=some r→AC Tryz.prog 66 [.t (.sl (x1.map Form.row))] noOb (.t (.sc (.bool r))) noOb
theorem zhM (fuel:Nat):m_impl_literalsOk_AC fuel:=by
 intro x1 r F0
 unfold zdQ at F0
 refine AC_i [.t (.sc (.bool r))] Tryz.func66 rfl Tryz.ntmps66 ?_
 intro C hC
 refine zb (za ?_)
 refine s_as ?_
 refine zf (zd (zb (zb (za ?_))))
 refine s_mv ?_
 refine zC yU24 ?_
 refine s_mv ?_
 refine zf (zd (zl ?_))
 refine zaK (β:=Int) [2,3,4,7,8,9,10,11,12,13,14,15,16,17,18,19,20,21,22,23,24,25,26,27,28,29,30,31,32] [] [4] (fun a=>[(7,.t (.sc (.int .i64 a.2)))]) (fun a=>[]) (fun a=>a.1≤fuel∧zby a.1 x1 a.2=some r∧0≤a.2) (fuel,0) ⟨Nat.le_refl _,F0,by simp⟩ ?_
 clear F0
 rintro ⟨fu,g1⟩ ⟨hl2,F1,hn_g1⟩
 dsimp only at hl2 F1 hn_g1 ⊢
 obtain _ | fu:=fu
 · rw [zby] at F1;cases F1
 rw [zby] at F1
 refine zb (za ?_)
 refine s_lt ?_
 refine zf (zd (zb ?_))
 refine zm F1 ?_ ?_<;>intro C3 F2
 refine zM 0 (fun B4=>?_)
 refine zi (zd (zb (zl (zb (za ?_)))))
 refine s_mv ?_
 obtain ⟨v5,V5,F3⟩:=zc F2
 refine zK Form.row V5 (Form.row_eq _) yE24 ?_
 refine zam yA32 yS32 ?_
 refine zU yZ32 ?_
 refine s_as ?_
 refine zac yS32 ?_
 refine zf (zd (zb ?_))
 refine zO yMix (by kernel_rfl) ?_
 refine zI yA32 yS32 ?_
 obtain ⟨v6,V6,F4⟩:=zc F3
 refine zv [] (zff fu _ _ V6) ?_
 refine zaY ?_
 refine s_mv ?_
 refine zp _ 15 F4 ?_ ?_<;>intro C7 F5
 iterate 3 refine r_no rfl ?_
 refine zA ?_
 refine s_mv ?_
 iterate 3 refine r_no rfl ?_
 refine zA ?_
 refine s_mv ?_
 iterate 5 refine r_no rfl ?_
 refine zA ?_
 refine zae (by kernel_rfl) ?_
 refine zd (zT rfl (zb (za ?_)))
 refine s_as ?_
 refine zf (zd (zh (zj (zg (zw (zj (zg (zn ?_))))))))
 cases F5
 exact zk [] [] Tryz.results66
 refine s_fa zcm ?_
 refine zu yA9 ?_
 refine zhr ?_
 refine zz ?_
 refine s_mv ?_
 refine zp _ 20 F5 ?_ ?_<;>intro C8 F6
 iterate 3 refine r_no rfl ?_
 refine zA ?_
 refine s_mv ?_
 iterate 5 refine r_no rfl ?_
 refine zA ?_
 refine zae (by kernel_rfl) ?_
 refine zd (zT rfl (zb (za ?_)))
 refine s_as ?_
 refine zf (zd (zh (zj (zg (zw (zj (zg (zn ?_))))))))
 cases F6
 exact zk [] [] Tryz.results66
 refine s_fa zcm ?_
 refine zu yA9 ?_
 refine zhr ?_
 refine zz ?_
 refine s_mv ?_
 refine zp _ 25 F6 ?_ ?_<;>intro C9 F7
 iterate 5 refine r_no rfl ?_
 refine zA ?_
 refine zae (by kernel_rfl) ?_
 refine zd (zT rfl (zb (za ?_)))
 refine s_as ?_
 refine zf (zd (zh (zj (zg (zw (zj (zg (zn ?_))))))))
 cases F7
 exact zk [] [] Tryz.results66
 refine s_mv ?_
 refine s_mv ?_
 obtain ⟨v10,V10,F8⟩:=zc F7
 refine s_sl01 Form.row (fun y=>Form.row_len y) V10 yU24 yE24 ?_
 refine zI yA32 yS32 ?_
 obtain ⟨v11,V11,F9⟩:=zc F8
 refine zv [] (zhn fu _ _ _ V11) ?_
 refine zz ?_
 refine zae (by kernel_rfl) ?_
 refine zd ?_
 refine zm F9 ?_ ?_<;>intro C12 F10
 refine zb (za ?_)
 refine s_as ?_
 refine zf (zd (zh (zj (zg (zw (zj (zg (zn ?_))))))))
 cases F10
 exact zk [] [] Tryz.results66
 refine zi (zW (zd (za ?_)))
 refine zJ (zas C3 B4 hn_g1) ?_
 refine s_mv ?_
 refine zf ?_
 exact s_rn (fu,(g1+1)) ⟨by first | omega | (dsimp only;omega),F10,by first | omega | (dsimp only;omega)⟩
 refine zy (zq (zo (zr (zd (zb (za ?_))))))
 refine s_mv ?_
 refine zC yU24 ?_
 refine s_le ?_
 refine s_as ?_
 refine zf (zd (zh (zn ?_)))
 cases F2
 exact zk [] [] Tryz.results66
def m_impl_isVar_AC (fuel:Nat):Prop:=∀ (x1:Form) (x2:(List Form)) (r:Bool),zhw fuel x1 x2=some r→AC Tryz.prog 70 [.ag [.t (.sc (.int .i64 x1.kind)),.t (.sc (.str x1.name)),.t (.sc (.int .i64 x1.n)),.t (.sl (x1.scopes.map rI)),.t (.sl (x1.kids.map Form.row))],.t (.sl (x2.map Form.row))] noOb (.t (.sc (.bool r))) noOb
theorem m_impl_isVar_ok (fuel:Nat):m_impl_isVar_AC fuel:=by
 intro x1 x2 r F0
 unfold zhw at F0
 refine AC_i [.t (.sc (.bool r))] Tryz.func70 rfl Tryz.ntmps70 ?_
 intro C hC
 refine zb (za ?_)
 refine zaL ?_
 refine s_as ?_
 refine zf (zd (zb (za ?_)))
 refine s_fa zcY ?_
 refine zu yA3 ?_
 refine s_eq ?_
 refine s_mv ?_
 refine zp _ 8 F0 ?_ ?_<;>intro C1 F1
 refine s_fa zcm ?_
 refine zu yA9 ?_
 refine s_neS ?_
 refine zA ?_
 refine s_mv ?_
 refine zp _ 13 F1 ?_ ?_<;>intro C2 F2
 refine s_fa zcm ?_
 refine zu yA9 ?_
 refine s_neS ?_
 refine zA ?_
 refine s_mv ?_
 refine zp _ 18 F2 ?_ ?_<;>intro C3 F3
 refine s_mv ?_
 refine zI yA32 yS32 ?_
 obtain ⟨v4,V4,F4⟩:=zc F3
 refine zv [] (zhn fuel _ _ _ V4) ?_
 refine zaY ?_
 refine zA ?_
 refine s_as ?_
 refine zf (zd (zh (zn ?_)))
 cases F4
 exact zk [] [] Tryz.results70
 iterate 4 refine r_no rfl ?_
 refine zz ?_
 refine s_as ?_
 refine zf (zd (zh (zn ?_)))
 cases F3
 exact zk [] [] Tryz.results70
 iterate 3 refine r_no rfl ?_
 refine zz ?_
 refine s_mv ?_
 iterate 4 refine r_no rfl ?_
 refine zz ?_
 refine s_as ?_
 refine zf (zd (zh (zn ?_)))
 cases F2
 exact zk [] [] Tryz.results70
 iterate 3 refine r_no rfl ?_
 refine zz ?_
 refine s_mv ?_
 iterate 3 refine r_no rfl ?_
 refine zz ?_
 refine s_mv ?_
 iterate 4 refine r_no rfl ?_
 refine zz ?_
 refine s_as ?_
 refine zf (zd (zh (zn ?_)))
 cases F1
 exact zk [] [] Tryz.results70
def zeg (fuel:Nat):Prop:=∀ (x1:Form) (x2:(List Form)) (x3:Int) (o1:(List Form)) (o2:(List Int)) (r:((List Form) × (List Int))),zbe fuel x1 x2 x3 o1 o2=some r→AC Tryz.prog 132 [.ag [.t (.sc (.int .i64 x1.kind)),.t (.sc (.str x1.name)),.t (.sc (.int .i64 x1.n)),.t (.sl (x1.scopes.map rI)),.t (.sl (x1.kids.map Form.row))],.t (.sl (x2.map Form.row)),.t (.sc (.int .i64 x3)),.rf 9000 0,.rf 9001 0] (objs [(9000,.box [.ar 9420]),(9420,.arr (o1.map Form.row) 32 true),(9001,.box [.ar 9440]),(9440,.arr (o2.map rI) 3 true)]) (.tp []) (objs [(9000,.box [.ar 10420]),(9420,.dead),(9001,.box [.ar 10440]),(9440,.dead),(10420,.arr (r.1.map Form.row) 32 true),(10440,.arr (r.2.map rI) 3 true)])
theorem m_impl_patternVars_st (fu:Nat) (ih_m_impl_patternVars:∀ k,k≤fu→zeg k):zeg (fu+1):=by
 intro x1 x2 x3 o1 o2 r F0
 rw [zbe] at F0
 refine AC_i [] Tryz.func132 rfl Tryz.ntmps132 ?_
 intro C hC
 refine zb (za ?_)
 refine zaL ?_
 refine zf (zd (zb (zb (za ?_))))
 refine zI yA32 yS32 ?_
 refine s_mv ?_
 obtain ⟨v1,V1,F1⟩:=zc F0
 refine zv [] (m_impl_isVar_ok fu _ _ _ V1) ?_
 refine zf (zd ?_)
 refine zm F1 ?_ ?_<;>intro C2 F2
 refine zb ?_
 refine zO yMix (by kernel_rfl) ?_
 refine s_mv ?_
 refine s_nc ?_
 refine zu yA24 ?_
 refine zI yA32 yS32 ?_
 refine zg8 yU24 ?_
 refine s_bs Form.row [(Form.mk 0 (⟨#[]⟩:ByteArray) 0 ([]:List Int) ([]:List Form))] yP24 yR32 ?_
 obtain ⟨hk3,F3⟩:=zad F2
 refine zek Form.row (fun y=>Form.row_len y) hk3 yP24 ?_
 obtain ⟨v4,V4,F4⟩:=zc F3
 refine zis Form.row V4 yE24 ?_
 refine s_stA Form.row x1 V4 (Form.row_eq _) (Form.row_eq _) yS32 yS32 ?_
 refine s_nc ?_
 refine zac yS24 ?_
 refine zae (by kernel_rfl) ?_
 refine zd (za ?_)
 refine s_mv ?_
 refine s_mv ?_
 refine s_nc ?_
 refine zu yA27 ?_
 refine s_mv ?_
 refine s_bs rI [x3] yP27 yR3 ?_
 obtain ⟨hk5,F5⟩:=zad F4
 refine zek rI (fun _=>rfl) hk5 yP27 ?_
 refine s_nc ?_
 refine zac yS27 ?_
 refine zf (zd (zb (za ?_)))
 refine s_fa zF ?_
 refine zu yA24 ?_
 refine zC yU24 ?_
 refine s_mv ?_
 refine zf (zd (zl ?_))
 refine zeR 9000 22 5020 [.ar 5020] ?_
 refine zeR 9001 31 5021 [.ar 5021] ?_
 refine zal [10,11,12,36,37,38,39,40,41,42,43,44,45,46,47,48,49,50,51,52,53,54,55,56,57,58,59,60,61,62,63,64,65] [5020,5021,9000,9001] [11,42064,52064] [5020,5021] (fun a:Nat × Int × (List Form) × (List Int)=>a.1) (fun a:Nat × Int × (List Form) × (List Int)=>[(36,.t (.sc (.int .i64 a.2.1)))]) (fun a:Nat × Int × (List Form) × (List Int)=>[(5020,.arr (a.2.2.1.map Form.row) 32 true),(5021,.arr (a.2.2.2.map rI) 3 true),(9000,.box [.ar 5020]),(9001,.box [.ar 5021])]) (fun a:Nat × Int × (List Form) × (List Int)=>a.1≤fu∧zV a.1 x1 x2 x3 a.2.1 a.2.2.1 a.2.2.2=some r∧0≤a.2.1) (fu,0,((o1++[(Form.mk 0 (⟨#[]⟩:ByteArray) 0 ([]:List Int) ([]:List Form))]).set (o1.length:Int).toNat x1),(o2++[x3])) ⟨Nat.le_refl _,F5,by simp⟩ (by rfl) (by rfl) (fun _=>rfl) (zH (by conv=>lhs;whnf) (by rfl) zaV) (zL (by conv=>lhs;whnf) (by rfl) (zL (by conv=>lhs;whnf) (by rfl) (zL (by conv=>lhs;whnf) (by rfl) (zL (by conv=>lhs;whnf) (by rfl) zaG)))) (zbM hC rfl) (by repeat (first | exact z6 rfl | refine zaj rfl ?_ | refine zP rfl ?_)) (by repeat (first | exact zax | exact z9 rfl | refine zak rfl ?_ | refine zQ rfl ?_)) ?_
 clear F5
 rintro ⟨fu,g6,g7,g8⟩ ⟨hl9,F6,hn_g6⟩
 dsimp only at hl9 F6 hn_g6 ⊢
 obtain _ | fu:=fu
 · rw [zV] at F6;cases F6
 rw [zV] at F6
 refine zb (za ?_)
 refine s_lt ?_
 refine zf (zd (zb ?_))
 refine zm F6 ?_ ?_<;>intro C10 F7
 refine zM 34 (fun B11=>?_)
 refine zi (zd (zb (zl (zb (za ?_)))))
 refine s_mv ?_
 obtain ⟨v12,V12,F8⟩:=zc F7
 refine zK Form.row V12 (Form.row_eq _) yE24 ?_
 refine zam yA32 yS32 ?_
 refine zU yZ32 ?_
 refine s_as ?_
 refine zac yS32 ?_
 refine zf (zd (zb (za ?_)))
 refine s_mv ?_
 refine s_as ?_
 refine zf (zd (zb (zb (za ?_))))
 refine s_mv ?_
 refine zJ (zas C10 B11 hn_g6) ?_
 refine s_fa zF ?_
 refine zu yA24 ?_
 refine zC yU24 ?_
 refine s_lt ?_
 refine s_mv ?_
 refine zp _ 48 F8 ?_ ?_<;>intro C13 F9
 refine s_fa zF ?_
 refine zu yA24 ?_
 refine s_mv ?_
 refine zJ (zas C10 B11 hn_g6) ?_
 obtain ⟨v14,V14,F10⟩:=zc F9
 refine zK Form.row V14 (Form.row_eq _) yE24 ?_
 refine zam yA32 yS32 ?_
 obtain ⟨v15,V15,F11⟩:=zc F10
 refine zv [] (zbK fu _ _ _ V15) ?_
 refine zA ?_
 refine zf (zd ?_)
 refine zm F11 ?_ ?_<;>intro C16 F12
 refine za ?_
 refine s_mv ?_
 refine zJ rfl ?_
 refine s_as ?_
 refine zf (zd (za ?_))
 refine zI yA32 yS32 ?_
 iterate 4 refine s_mv ?_
 obtain ⟨v17,V17,F13⟩:=zc F12
 refine zY [(9000,9000),(9001,9001),(9420,5020),(9440,5021),(10420,42064),(10440,52064)] [] _ _ (ih_m_impl_patternVars fu (by omega) _ _ _ _ _ _ V17) ?_
 refine zf (zW (zd (za ?_)))
 refine zJ (zas C10 B11 hn_g6) ?_
 refine s_mv ?_
 refine zf ?_
 exact s_rn (fu,(g6+1),v17.1,v17.2) ⟨by first | omega | (dsimp only;omega),F13,by first | omega | (dsimp only;omega)⟩ [(5020,42064),(5021,52064)]
 refine zi (zd (za ?_))
 refine zI yA32 yS32 ?_
 iterate 4 refine s_mv ?_
 obtain ⟨v18,V18,F13⟩:=zc F12
 refine zY [(9000,9000),(9001,9001),(9420,5020),(9440,5021),(10420,42064),(10440,52064)] [] _ _ (ih_m_impl_patternVars fu (by omega) _ _ _ _ _ _ V18) ?_
 refine zf (zW (zd (za ?_)))
 refine zJ (zas C10 B11 hn_g6) ?_
 refine s_mv ?_
 refine zf ?_
 exact s_rn (fu,(g6+1),v18.1,v18.2) ⟨by first | omega | (dsimp only;omega),F13,by first | omega | (dsimp only;omega)⟩ [(5020,42064),(5021,52064)]
 iterate 7 refine r_no rfl ?_
 refine zz ?_
 refine zf (zd (zaX rfl (zi (zd (za ?_)))))
 refine zI yA32 yS32 ?_
 iterate 4 refine s_mv ?_
 obtain ⟨v19,V19,F10⟩:=zc F9
 refine zY [(9000,9000),(9001,9001),(9420,5020),(9440,5021),(10420,42064),(10440,52064)] [] _ _ (ih_m_impl_patternVars fu (by omega) _ _ _ _ _ _ V19) ?_
 refine zf (zW (zd (za ?_)))
 refine zJ (zas C10 B11 hn_g6) ?_
 refine s_mv ?_
 refine zf ?_
 exact s_rn (fu,(g6+1),v19.1,v19.2) ⟨by first | omega | (dsimp only;omega),F10,by first | omega | (dsimp only;omega)⟩ [(5020,42064),(5021,52064)]
 refine zeR 9000 5020 10420 [.ar 10420] ?_
 refine zeR 9001 5021 10440 [.ar 10440] ?_
 refine zy (zq (zo (zr (zhy ?_))))
 cases F7
 exact zk _ [] Tryz.results132
 refine zi (zd (zb (za ?_)))
 refine s_fa zF ?_
 refine zu yA24 ?_
 refine zC yU24 ?_
 refine s_mv ?_
 refine zf (zd (zl ?_))
 refine zeR 9000 9420 5040 [.ar 5040] ?_
 refine zeR 9001 9440 5041 [.ar 5041] ?_
 refine zal [10,11,12,36,37,38,39,40,41,42,43,44,45,46,47,48,49,50,51,52,53,54,55,56,57,58,59,60,61,62,63,64,65] [5040,5041,9000,9001] [11,42064,52064] [5040,5041] (fun a:Nat × Int × (List Form) × (List Int)=>a.1) (fun a:Nat × Int × (List Form) × (List Int)=>[(36,.t (.sc (.int .i64 a.2.1)))]) (fun a:Nat × Int × (List Form) × (List Int)=>[(5040,.arr (a.2.2.1.map Form.row) 32 true),(5041,.arr (a.2.2.2.map rI) 3 true),(9000,.box [.ar 5040]),(9001,.box [.ar 5041])]) (fun a:Nat × Int × (List Form) × (List Int)=>a.1≤fu∧zV a.1 x1 x2 x3 a.2.1 a.2.2.1 a.2.2.2=some r∧0≤a.2.1) (fu,0,o1,o2) ⟨Nat.le_refl _,F2,by simp⟩ (by rfl) (by rfl) (fun _=>rfl) (zH (by conv=>lhs;whnf) (by rfl) zaV) (zL (by conv=>lhs;whnf) (by rfl) (zL (by conv=>lhs;whnf) (by rfl) (zL (by conv=>lhs;whnf) (by rfl) (zL (by conv=>lhs;whnf) (by rfl) zaG)))) (zbM hC rfl) (by repeat (first | exact z6 rfl | refine zaj rfl ?_ | refine zP rfl ?_)) (by repeat (first | exact zax | exact z9 rfl | refine zak rfl ?_ | refine zQ rfl ?_)) ?_
 clear F2
 rintro ⟨fu,g20,g21,g22⟩ ⟨hl23,F3,hn_g20⟩
 dsimp only at hl23 F3 hn_g20 ⊢
 obtain _ | fu:=fu
 · rw [zV] at F3;cases F3
 rw [zV] at F3
 refine zb (za ?_)
 refine s_lt ?_
 refine zf (zd (zb ?_))
 refine zm F3 ?_ ?_<;>intro C24 F4
 refine zM 34 (fun B25=>?_)
 refine zi (zd (zb (zl (zb (za ?_)))))
 refine s_mv ?_
 obtain ⟨v26,V26,F5⟩:=zc F4
 refine zK Form.row V26 (Form.row_eq _) yE24 ?_
 refine zam yA32 yS32 ?_
 refine zU yZ32 ?_
 refine s_as ?_
 refine zac yS32 ?_
 refine zf (zd (zb (za ?_)))
 refine s_mv ?_
 refine s_as ?_
 refine zf (zd (zb (zb (za ?_))))
 refine s_mv ?_
 refine zJ (zas C24 B25 hn_g20) ?_
 refine s_fa zF ?_
 refine zu yA24 ?_
 refine zC yU24 ?_
 refine s_lt ?_
 refine s_mv ?_
 refine zp _ 48 F5 ?_ ?_<;>intro C27 F6
 refine s_fa zF ?_
 refine zu yA24 ?_
 refine s_mv ?_
 refine zJ (zas C24 B25 hn_g20) ?_
 obtain ⟨v28,V28,F7⟩:=zc F6
 refine zK Form.row V28 (Form.row_eq _) yE24 ?_
 refine zam yA32 yS32 ?_
 obtain ⟨v29,V29,F8⟩:=zc F7
 refine zv [] (zbK fu _ _ _ V29) ?_
 refine zA ?_
 refine zf (zd ?_)
 refine zm F8 ?_ ?_<;>intro C30 F9
 refine za ?_
 refine s_mv ?_
 refine zJ rfl ?_
 refine s_as ?_
 refine zf (zd (za ?_))
 refine zI yA32 yS32 ?_
 iterate 4 refine s_mv ?_
 obtain ⟨v31,V31,F10⟩:=zc F9
 refine zY [(9000,9000),(9001,9001),(9420,5040),(9440,5041),(10420,42064),(10440,52064)] [] _ _ (ih_m_impl_patternVars fu (by omega) _ _ _ _ _ _ V31) ?_
 refine zf (zW (zd (za ?_)))
 refine zJ (zas C24 B25 hn_g20) ?_
 refine s_mv ?_
 refine zf ?_
 exact s_rn (fu,(g20+1),v31.1,v31.2) ⟨by first | omega | (dsimp only;omega),F10,by first | omega | (dsimp only;omega)⟩ [(5040,42064),(5041,52064)]
 refine zi (zd (za ?_))
 refine zI yA32 yS32 ?_
 iterate 4 refine s_mv ?_
 obtain ⟨v32,V32,F10⟩:=zc F9
 refine zY [(9000,9000),(9001,9001),(9420,5040),(9440,5041),(10420,42064),(10440,52064)] [] _ _ (ih_m_impl_patternVars fu (by omega) _ _ _ _ _ _ V32) ?_
 refine zf (zW (zd (za ?_)))
 refine zJ (zas C24 B25 hn_g20) ?_
 refine s_mv ?_
 refine zf ?_
 exact s_rn (fu,(g20+1),v32.1,v32.2) ⟨by first | omega | (dsimp only;omega),F10,by first | omega | (dsimp only;omega)⟩ [(5040,42064),(5041,52064)]
 iterate 7 refine r_no rfl ?_
 refine zz ?_
 refine zf (zd (zaX rfl (zi (zd (za ?_)))))
 refine zI yA32 yS32 ?_
 iterate 4 refine s_mv ?_
 obtain ⟨v33,V33,F7⟩:=zc F6
 refine zY [(9000,9000),(9001,9001),(9420,5040),(9440,5041),(10420,42064),(10440,52064)] [] _ _ (ih_m_impl_patternVars fu (by omega) _ _ _ _ _ _ V33) ?_
 refine zf (zW (zd (za ?_)))
 refine zJ (zas C24 B25 hn_g20) ?_
 refine s_mv ?_
 refine zf ?_
 exact s_rn (fu,(g20+1),v33.1,v33.2) ⟨by first | omega | (dsimp only;omega),F7,by first | omega | (dsimp only;omega)⟩ [(5040,42064),(5041,52064)]
 refine zeR 9000 5040 10420 [.ar 10420] ?_
 refine zeR 9001 5041 10440 [.ar 10440] ?_
 refine zy (zq (zo (zr (zhy ?_))))
 cases F4
 exact zk _ [] Tryz.results132
theorem m_impl_patternVars_all (fuel:Nat):zeg fuel:=by
 induction fuel using Nat.strongRecOn with
 | _ N ih =>
   cases N with
   | zero=>exact (by intro x1 x2 x3 o1 o2 r h;rw [zbe] at h;cases h)
   | succ fu=>exact m_impl_patternVars_st fu (fun k hk=>(ih k (by omega)))
theorem m_impl_patternVars_ok (fuel:Nat):zeg fuel:=(m_impl_patternVars_all fuel)
def m_impl_varsOf_AC (fuel:Nat):Prop:=∀ (x1:Form) (x2:(List Form)) (r:((List Form) × (List Int))),zeN fuel x1 x2=some r→AC Tryz.prog 82 [.ag [.t (.sc (.int .i64 x1.kind)),.t (.sc (.str x1.name)),.t (.sc (.int .i64 x1.n)),.t (.sl (x1.scopes.map rI)),.t (.sl (x1.kids.map Form.row))],.t (.sl (x2.map Form.row))] (objs []) (.tp [.ar 9200,.t (.sl (r.2.map rI))]) (objs [(9200,.arr (r.1.map Form.row) 32 true)])
theorem zhG (fuel:Nat):m_impl_varsOf_AC fuel:=by
 intro x1 x2 r F0
 unfold zeN at F0
 refine AC_i [.ar 9200,.t (.sl (r.2.map rI))] Tryz.func82 rfl Tryz.ntmps82 ?_
 intro C hC
 refine zb (za ?_)
 refine zaL ?_
 refine s_as ?_
 refine s_as ?_
 refine zf (zd (zb (za ?_)))
 refine s_bs Form.row ([]:List Form) yP24 yR32 ?_
 refine s_bs rI ([]:List Int) yP27 yR3 ?_
 refine zU yZ24 ?_
 refine zU yZ27 ?_
 refine zac yS24 ?_
 refine zac yS27 ?_
 refine zf (zd (zb (za ?_)))
 refine zI yA32 yS32 ?_
 refine s_mv ?_
 obtain ⟨v1,V1,F1⟩:=zc F0
 refine zY [(9000,6),(9001,7),(9420,8),(9440,9),(10420,42012),(10440,52012)] [] _ _ (m_impl_patternVars_ok fuel _ _ _ _ _ _ V1) ?_
 refine zf (zd (zb ?_))
 refine zO yMix (by kernel_rfl) ?_
 refine zu yA24 ?_
 refine zu yA27 ?_
 refine s_as ?_
 refine s_as ?_
 refine zae (by kernel_rfl) ?_
 refine zd ?_
 refine zcZ 4 42012 9200 (by conv=>lhs;whnf) (by conv=>lhs;whnf) rfl ?_
 refine zh (zn ?_)
 cases F1
 exact zk _ [52012] Tryz.results82
def m_impl_PatternValid_AC (fuel:Nat):Prop:=∀ (x1:Form) (x2:(List Form)) (r:Bool),zdX fuel x1 x2=some r→AC Tryz.prog 121 [.ag [.t (.sc (.int .i64 x1.kind)),.t (.sc (.str x1.name)),.t (.sc (.int .i64 x1.n)),.t (.sl (x1.scopes.map rI)),.t (.sl (x1.kids.map Form.row))],.t (.sl (x2.map Form.row))] noOb (.t (.sc (.bool r))) noOb
theorem m_impl_PatternValid_ok (fuel:Nat):m_impl_PatternValid_AC fuel:=by
 intro x1 x2 r F0
 unfold zdX at F0
 refine AC_i [.t (.sc (.bool r))] Tryz.func121 rfl Tryz.ntmps121 ?_
 intro C hC
 refine zb (za ?_)
 refine zaL ?_
 refine s_as ?_
 refine zf (zd (zb (zb (za ?_))))
 refine zI yA32 yS32 ?_
 obtain ⟨v1,V1,F1⟩:=zc F0
 refine zv [] (zcV fuel _ _ V1) ?_
 refine zaY ?_
 refine s_mv ?_
 refine zp _ 12 F1 ?_ ?_<;>intro C2 F2
 iterate 3 refine r_no rfl ?_
 refine zA ?_
 refine s_mv ?_
 refine r_no rfl (r_no rfl ?_)
 refine zA ?_
 refine s_mv ?_
 iterate 3 refine r_no rfl ?_
 refine zA ?_
 refine zf (zd (zT rfl (zb (za ?_))))
 refine s_as ?_
 refine zf (zd (zh (zg (zn ?_))))
 cases F2
 exact zk [] [] Tryz.results121
 refine s_mv ?_
 obtain ⟨v3,V3,F3⟩:=zc F2
 refine zv [] (zhM fuel _ _ V3) ?_
 refine zaY ?_
 refine zz ?_
 refine s_mv ?_
 refine zp _ 17 F3 ?_ ?_<;>intro C4 F4
 refine r_no rfl (r_no rfl ?_)
 refine zA ?_
 refine s_mv ?_
 iterate 3 refine r_no rfl ?_
 refine zA ?_
 refine zf (zd (zT rfl (zb (za ?_))))
 refine s_as ?_
 refine zf (zd (zh (zg (zn ?_))))
 cases F4
 exact zk [] [] Tryz.results121
 refine zI yA32 yS32 ?_
 obtain ⟨v5,V5,F5⟩:=zc F4
 refine zv [] (zbK fuel _ _ _ V5) ?_
 refine zz ?_
 refine s_mv ?_
 refine zp _ 21 F5 ?_ ?_<;>intro C6 F6
 iterate 3 refine r_no rfl ?_
 refine zA ?_
 refine zf (zd (zT rfl (zb (za ?_))))
 refine s_as ?_
 refine zf (zd (zh (zg (zn ?_))))
 cases F6
 exact zk [] [] Tryz.results121
 refine zI yA32 yS32 ?_
 obtain ⟨v7,V7,F7⟩:=zc F6
 refine zv [] (m_impl_dotsOk_ok fuel _ _ _ V7) ?_
 refine zaY ?_
 refine zz ?_
 refine zf (zd ?_)
 refine zm F7 ?_ ?_<;>intro C8 F8
 refine zb (za ?_)
 refine s_as ?_
 refine zf (zd (zh (zg (zn ?_))))
 cases F8
 exact zk [] [] Tryz.results121
 refine zi (zd (zb (za ?_)))
 refine zI yA32 yS32 ?_
 refine s_mv ?_
 obtain ⟨v9,V9,F9⟩:=zc F8
 refine zY [(9200,2029)] [] _ _ (zhG fuel _ _ _ V9) ?_
 refine s_mv ?_
 refine zbf ?_
 refine zbf ?_
 refine s_as ?_
 refine s_as ?_
 refine zf (zd (zb (zb (za ?_))))
 refine s_mv ?_
 refine zg8 yU24 ?_
 refine s_mv ?_
 refine zf (zd (zl ?_))
 refine awp_frz 2029 (by conv=>lhs;whnf) ?_
 refine zaK (β:=Int × (List Form)) [4,7,8,34,35,36,37,38,39,40,41,42,43,44,45,46,47,48,49,50,51] [2029] [8] (fun a=>[(34,.t (.sc (.int .i64 a.2.1)))]) (fun a=>[(2029,.arr (a.2.2.map Form.row) 32 false)]) (fun a=>a.1≤fuel∧zaF a.1 v9 a.2.1 a.2.2=some r) (fuel,0,v9.1) ⟨Nat.le_refl _,F9⟩ ?_
 clear F9
 rintro ⟨fu,g10,g11⟩ ⟨hl12,F10⟩
 dsimp only at hl12 F10 ⊢
 obtain _ | fu:=fu
 · rw [zaF] at F10;cases F10
 rw [zaF] at F10
 refine zb (za ?_)
 refine s_lt ?_
 refine zf (zd (zb ?_))
 refine zm F10 ?_ ?_<;>intro C13 F11
 refine zi (zd (zb (zl (zb (za ?_)))))
 refine s_mv ?_
 obtain ⟨v14,V14,F12⟩:=zc F11
 refine zis Form.row V14 yE24 ?_
 refine s_lAN Form.row V14 (Form.row_eq _) yA32 yS32 ?_
 refine zU yZ32 ?_
 refine s_as ?_
 refine zac yS32 ?_
 refine zf (zd (zb ?_))
 refine zO yMix (by kernel_rfl) ?_
 refine s_mv ?_
 refine s_mv ?_
 obtain ⟨v15,V15,F13⟩:=zc F12
 refine s_sl01 Form.row (fun y=>Form.row_len y) V15 yU24 yE24 ?_
 refine zI yA32 yS32 ?_
 obtain ⟨v16,V16,F14⟩:=zc F13
 refine zv [] (zhn fu _ _ _ V16) ?_
 refine s_mv ?_
 refine zp _ 44 F14 ?_ ?_<;>intro C17 F15
 iterate 5 refine r_no rfl ?_
 refine zA ?_
 refine zae (by kernel_rfl) ?_
 refine zd (zT rfl (zb (za ?_)))
 refine s_as ?_
 refine zf (zd (zh (zj (zg (zw (zj (zg (zn ?_))))))))
 cases F15
 exact zk [] [] Tryz.results121
 refine s_mv ?_
 refine s_mv ?_
 obtain ⟨v18,V18,F16⟩:=zc F15
 refine zK rI V18 rfl yE27 ?_
 refine zu yA3 ?_
 refine s_gt ?_
 refine zz ?_
 refine zae (by kernel_rfl) ?_
 refine zd ?_
 refine zm F16 ?_ ?_<;>intro C19 F17
 refine zb (za ?_)
 refine s_as ?_
 refine zf (zd (zh (zj (zg (zw (zj (zg (zn ?_))))))))
 cases F17
 exact zk [] [] Tryz.results121
 refine zi (zW (zd (za ?_)))
 refine zJ rfl ?_
 refine s_mv ?_
 refine zf ?_
 exact s_rn (fu,(w64 (g10+1)),g11) ⟨by first | omega | (dsimp only;omega),F17⟩
 refine zy (zq (zo (zr (zd (zb (za ?_))))))
 refine s_mv ?_
 refine zg8 yU24 ?_
 refine s_le ?_
 refine s_as ?_
 refine zf (zd (zh (zn ?_)))
 cases F11
 exact zk [] [] Tryz.results121
end Go.Abs
