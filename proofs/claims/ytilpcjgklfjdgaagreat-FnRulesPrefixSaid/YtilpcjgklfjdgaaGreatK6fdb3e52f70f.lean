/- A part of the proof: what the functions that the law calls answer, as pure values. -/
import Derived.Test.YtilpcjgklfjdgaaGreatK47376951e403
import Derived.Test.YtilpcjgklfjdgaaGreatKbeececb3b691
import Derived.Test.YtilpcjgklfjdgaaGreatK349a5dde2cfa
import Derived.Test.YtilpcjgklfjdgaaGreatKdfd114e1f3bb
import Derived.Test.YtilpcjgklfjdgaaGreatK5bebff7b483b
import Derived.Test.YtilpcjgklfjdgaaGreatK944daf6655d5
set_option linter.unusedSimpArgs false
set_option linter.unusedVariables false
set_option maxRecDepth 100000
set_option maxHeartbeats 4000000
namespace Go.Abs
open Go.Proofs
def m_impl_RuleValid_AC (fuel:Nat):Prop:=∀ (x1:Rule) (x2:(List Form)) (r:Bool),zfh fuel x1 x2=some r→AC Tryz.prog 68 [.ag [.t (.sc (.int .i64 x1.pattern.kind)),.t (.sc (.str x1.pattern.name)),.t (.sc (.int .i64 x1.pattern.n)),.t (.sl (x1.pattern.scopes.map rI)),.t (.sl (x1.pattern.kids.map Form.row)),.t (.sc (.int .i64 x1.template.kind)),.t (.sc (.str x1.template.name)),.t (.sc (.int .i64 x1.template.n)),.t (.sl (x1.template.scopes.map rI)),.t (.sl (x1.template.kids.map Form.row))],.t (.sl (x2.map Form.row))] noOb (.t (.sc (.bool r))) noOb
theorem m_impl_RuleValid_ok (fuel:Nat):m_impl_RuleValid_AC fuel:=by
 intro x1 x2 r F0
 unfold zfh at F0
 refine AC_i [.t (.sc (.bool r))] Tryz.func68 rfl Tryz.ntmps68 ?_
 intro C hC
 refine zb (za ?_)
 refine zaL ?_
 refine s_as ?_
 refine zf (zd (zb (zb (za ?_))))
 refine s_fa zic ?_
 refine zam yA32 yS32 ?_
 refine s_mv ?_
 obtain ⟨v1,V1,F1⟩:=zc F0
 refine zv [] (m_impl_PatternValid_ok fuel _ _ _ V1) ?_
 refine zaY ?_
 refine s_mv ?_
 refine zp _ 12 F1 ?_ ?_<;>intro C2 F2
 iterate 4 refine r_no rfl ?_
 refine zA ?_
 refine s_mv ?_
 iterate 5 refine r_no rfl ?_
 refine zA ?_
 refine zf (zd (zT rfl (zb (za ?_))))
 refine s_as ?_
 refine zf (zd (zh (zg (zn ?_))))
 cases F2
 exact zk [] [] Tryz.results68
 refine s_fa zic ?_
 refine s_fa zcY ?_
 refine zu yA3 ?_
 refine s_ne ?_
 refine zz ?_
 refine s_mv ?_
 refine zp _ 18 F2 ?_ ?_<;>intro C3 F3
 iterate 5 refine r_no rfl ?_
 refine zA ?_
 refine zf (zd (zT rfl (zb (za ?_))))
 refine s_as ?_
 refine zf (zd (zh (zg (zn ?_))))
 cases F3
 exact zk [] [] Tryz.results68
 refine s_fa zic ?_
 refine s_fa zF ?_
 refine zu yA24 ?_
 refine zC yU24 ?_
 refine s_eq ?_
 refine zz ?_
 refine zf (zd ?_)
 refine zm F3 ?_ ?_<;>intro C4 F4
 refine zb (za ?_)
 refine s_as ?_
 refine zf (zd (zh (zg (zn ?_))))
 cases F4
 exact zk [] [] Tryz.results68
 refine zi (zd (zb (za ?_)))
 refine s_fa zic ?_
 refine zam yA32 yS32 ?_
 refine s_mv ?_
 obtain ⟨v5,V5,F5⟩:=zc F4
 refine zY [(9200,2029)] [] _ _ (zhG fuel _ _ _ V5) ?_
 refine s_mv ?_
 refine zbf ?_
 refine zbf ?_
 refine s_as ?_
 refine s_as ?_
 refine zf (zd (zb (za ?_)))
 refine s_fa yF37_1 ?_
 refine zam yA32 yS32 ?_
 refine s_mv ?_
 refine s_mv ?_
 obtain ⟨v6,V6,F6⟩:=zc F5
 refine zv [2029] (zhL fuel _ _ _ _ V6) ?_
 refine s_as ?_
 refine zf (zd (zh (zn ?_)))
 cases F6
 exact zk [] [] Tryz.results68
def m_impl_rulesOk_1_AC (fuel:Nat):Prop:=∀ (x1:Rule) (o1:(List Form)) (r:Bool),zfe fuel x1 o1=some r→AC Tryz.prog 67 [.ag [.t (.sc (.int .i64 x1.pattern.kind)),.t (.sc (.str x1.pattern.name)),.t (.sc (.int .i64 x1.pattern.n)),.t (.sl (x1.pattern.scopes.map rI)),.t (.sl (x1.pattern.kids.map Form.row)),.t (.sc (.int .i64 x1.template.kind)),.t (.sc (.str x1.template.name)),.t (.sc (.int .i64 x1.template.n)),.t (.sl (x1.template.scopes.map rI)),.t (.sl (x1.template.kids.map Form.row))],.rf 9000 0] (objs [(9000,.box [.t (.sl (o1.map Form.row))])]) (.t (.sc (.bool r))) (objs [(9000,.box [.t (.sl (o1.map Form.row))])])
theorem m_impl_rulesOk_1_ok (fuel:Nat):m_impl_rulesOk_1_AC fuel:=by
 intro x1 o1 r F0
 unfold zfe at F0
 refine AC_i [.t (.sc (.bool r))] Tryz.func67 rfl Tryz.ntmps67 ?_
 intro C hC
 refine zb (za ?_)
 refine zaL ?_
 refine s_as ?_
 refine zf (zd (zb (za ?_)))
 refine zI yA37 yS37 ?_
 refine zu yA24 ?_
 obtain ⟨v1,V1,F1⟩:=zc F0
 refine zv [] (m_impl_RuleValid_ok fuel _ _ _ V1) ?_
 refine zaY ?_
 refine s_as ?_
 refine zf (zd (zh (zn ?_)))
 cases F1
 exact zk _ [] Tryz.results67
def zgb (fuel:Nat):Prop:=∀ (x1:(List Rule)) (o1:(List Form)) (r:Int),zbC fuel x1 o1=some r→AC Tryz.prog 69 [.t (.sl (x1.map Rule.row)),.fn 67 [.rf 9000 0]] (objs [(9000,.box [.t (.sl (o1.map Form.row))])]) (.t (.sc (.int .i64 r))) (objs [(9000,.box [.t (.sl (o1.map Form.row))])])
theorem zga (fuel:Nat):zgb fuel:=by
 intro x1 o1 r F0
 unfold zbC at F0
 refine AC_i [.t (.sc (.int .i64 r))] Tryz.func69 rfl Tryz.ntmps69 ?_
 intro C hC
 refine zb (za ?_)
 refine s_as ?_
 refine zf (zd (zb (zb (za ?_))))
 refine s_mv ?_
 refine zC yU23 ?_
 refine s_mv ?_
 refine zf (zd (zl ?_))
 refine zaK (β:=Int) [4,5,8,9,10,11,12,13,14,15,16,17,18] [] [] (fun a=>[(8,.t (.sc (.int .i64 a.2)))]) (fun a=>[]) (fun a=>a.1≤fuel∧zaa a.1 x1 o1 a.2=some r∧0≤a.2) (fuel,0) ⟨Nat.le_refl _,F0,by simp⟩ ?_
 clear F0
 rintro ⟨fu,g1⟩ ⟨hl2,F1,hn_g1⟩
 dsimp only at hl2 F1 hn_g1 ⊢
 obtain _ | fu:=fu
 · rw [zaa] at F1;cases F1
 rw [zaa] at F1
 refine zb (za ?_)
 refine s_lt ?_
 refine zf (zd (zb ?_))
 refine zm F1 ?_ ?_<;>intro C3 F2
 refine zM 0 (fun B4=>?_)
 refine zi (zd (zb (zl (zb (za ?_)))))
 refine s_mv ?_
 refine s_as ?_
 refine zf (zd (zb (za ?_)))
 iterate 3 refine s_mv ?_
 obtain ⟨v5,V5,F3⟩:=zc F2
 refine zK Rule.row V5 (Rule.row_eq _) yE23 ?_
 refine zam yA37 yS37 ?_
 obtain ⟨v6,V6,F4⟩:=zc F3
 refine zY [(9000,9000)] [] _ _ (m_impl_rulesOk_1_ok fu _ _ _ V6) ?_
 refine zf (zd ?_)
 refine zm F4 ?_ ?_<;>intro C7 F5
 refine zb (za ?_)
 refine s_mv ?_
 refine s_as ?_
 refine zf (zd (zh (zj (zg (zw (zj (zg (zn ?_))))))))
 cases F5
 exact zk _ [] Tryz.results69
 refine zi (zW (zd (za ?_)))
 refine zJ (zas C3 B4 hn_g1) ?_
 refine s_mv ?_
 refine zf ?_
 exact s_rn (fu,(g1+1)) ⟨by first | omega | (dsimp only;omega),F5,by first | omega | (dsimp only;omega)⟩
 refine zy (zq (zo (zr (zd (zb (za ?_))))))
 refine s_as ?_
 refine zf (zd (zh (zn ?_)))
 cases F2
 exact zk _ [] Tryz.results69
def zfL (fuel:Nat):Prop:=∀ (x1:(List Rule)) (o1:(List Form)) (r:Bool),zbd fuel x1 o1=some r→AC Tryz.prog 32 [.t (.sl (x1.map Rule.row)),.fn 67 [.rf 9000 0]] (objs [(9000,.box [.t (.sl (o1.map Form.row))])]) (.t (.sc (.bool r))) (objs [(9000,.box [.t (.sl (o1.map Form.row))])])
theorem zfK (fuel:Nat):zfL fuel:=by
 intro x1 o1 r F0
 unfold zbd at F0
 refine AC_i [.t (.sc (.bool r))] Tryz.func32 rfl Tryz.ntmps32 ?_
 intro C hC
 refine zb (za ?_)
 refine s_as ?_
 refine zf (zd (zb (za ?_)))
 refine s_mv ?_
 refine s_mv ?_
 obtain ⟨v1,V1,F1⟩:=zc F0
 refine zY [(9000,9000)] [] _ _ (zga fuel _ _ _ V1) ?_
 refine s_ge ?_
 refine s_as ?_
 refine zf (zd (zh (zn ?_)))
 cases F1
 exact zk _ [] Tryz.results32
def m_impl_rulesOk_AC (fuel:Nat):Prop:=∀ (x1:(List Rule)) (x2:(List Form)) (r:Bool),zgj fuel x1 x2=some r→AC Tryz.prog 31 [.t (.sl (x1.map Rule.row)),.t (.sl (x2.map Form.row))] noOb (.t (.sc (.bool r))) noOb
theorem m_impl_rulesOk_ok (fuel:Nat):m_impl_rulesOk_AC fuel:=by
 intro x1 x2 r F0
 unfold zgj at F0
 refine AC_i [.t (.sc (.bool r))] Tryz.func31 rfl Tryz.ntmps31 ?_
 intro C hC
 refine zb (za ?_)
 refine zaL ?_
 refine s_as ?_
 refine zf (zd (zb (za ?_)))
 refine s_mv ?_
 refine zC yU23 ?_
 refine s_le ?_
 refine s_mv ?_
 refine zp _ 8 F0 ?_ ?_<;>intro C1 F1
 refine zu yA24 ?_
 obtain ⟨v2,V2,F2⟩:=zc F1
 refine zv [] (zhM fuel _ _ V2) ?_
 refine zA ?_
 refine s_mv ?_
 refine zp _ 12 F2 ?_ ?_<;>intro C3 F3
 refine s_mv ?_
 refine s_fn ?_
 obtain ⟨v4,V4,F4⟩:=zc F3
 refine zY [(9000,3)] [] _ _ (zfK fuel _ _ _ V4) ?_
 refine zaY ?_
 refine zA ?_
 refine s_as ?_
 refine zf (zd (zh (zn ?_)))
 cases F4
 exact zk [] [] Tryz.results31
 iterate 4 refine r_no rfl ?_
 refine zz ?_
 refine s_as ?_
 refine zf (zd (zh (zn ?_)))
 cases F3
 exact zk [] [] Tryz.results31
 refine r_no rfl (r_no rfl ?_)
 refine zz ?_
 refine s_mv ?_
 iterate 4 refine r_no rfl ?_
 refine zz ?_
 refine s_as ?_
 refine zf (zd (zh (zn ?_)))
 cases F1
 exact zk [] [] Tryz.results31
def m_slices_Index_int_AC (fuel:Nat):Prop:=∀ (x1:(List Int)) (x2:Int) (r:Int),zfv fuel x1 x2=some r→AC Tryz.prog 184 [.t (.sl (x1.map rI)),.t (.sc (.int .i64 x2))] noOb (.t (.sc (.int .i64 r))) noOb
theorem m_slices_Index_int_ok (fuel:Nat):m_slices_Index_int_AC fuel:=by
 intro x1 x2 r F0
 unfold zfv at F0
 refine AC_i [.t (.sc (.int .i64 r))] Tryz.func184 rfl Tryz.ntmps184 ?_
 intro C hC
 refine zb (za ?_)
 refine s_as ?_
 refine zf (zd (zb (zb (za ?_))))
 refine s_mv ?_
 refine zC yU27 ?_
 refine s_mv ?_
 refine zf (zd (zl ?_))
 refine zaK (β:=Int) [4,5,8,9,10,11,12,13,14,15,16,17,18] [] [] (fun a=>[(8,.t (.sc (.int .i64 a.2)))]) (fun a=>[]) (fun a=>a.1≤fuel∧zbI a.1 x1 x2 a.2=some r∧0≤a.2) (fuel,0) ⟨Nat.le_refl _,F0,by simp⟩ ?_
 clear F0
 rintro ⟨fu,g1⟩ ⟨hl2,F1,hn_g1⟩
 dsimp only at hl2 F1 hn_g1 ⊢
 obtain _ | fu:=fu
 · rw [zbI] at F1;cases F1
 rw [zbI] at F1
 refine zb (za ?_)
 refine s_lt ?_
 refine zf (zd (zb ?_))
 refine zm F1 ?_ ?_<;>intro C3 F2
 refine zM 0 (fun B4=>?_)
 refine zi (zd (zb (zl (zb (za ?_)))))
 refine s_mv ?_
 refine s_as ?_
 refine zf (zd (zb (za ?_)))
 iterate 3 refine s_mv ?_
 obtain ⟨v5,V5,F3⟩:=zc F2
 refine zK rI V5 rfl yE27 ?_
 refine zu yA3 ?_
 refine s_eq ?_
 refine zf (zd ?_)
 refine zm F3 ?_ ?_<;>intro C6 F4
 refine zb (za ?_)
 refine s_mv ?_
 refine s_as ?_
 refine zf (zd (zh (zj (zg (zw (zj (zg (zn ?_))))))))
 cases F4
 exact zk [] [] Tryz.results184
 refine zi (zW (zd (za ?_)))
 refine zJ (zas C3 B4 hn_g1) ?_
 refine s_mv ?_
 refine zf ?_
 exact s_rn (fu,(g1+1)) ⟨by first | omega | (dsimp only;omega),F4,by first | omega | (dsimp only;omega)⟩
 refine zy (zq (zo (zr (zd (zb (za ?_))))))
 refine s_as ?_
 refine zf (zd (zh (zn ?_)))
 cases F2
 exact zk [] [] Tryz.results184
def ziL (fuel:Nat):Prop:=∀ (x1:(List Int)) (x2:Int) (r:Bool),zdb fuel x1 x2=some r→AC Tryz.prog 182 [.t (.sl (x1.map rI)),.t (.sc (.int .i64 x2))] noOb (.t (.sc (.bool r))) noOb
theorem ziK (fuel:Nat):ziL fuel:=by
 intro x1 x2 r F0
 unfold zdb at F0
 refine AC_i [.t (.sc (.bool r))] Tryz.func182 rfl Tryz.ntmps182 ?_
 intro C hC
 refine zb (za ?_)
 refine s_as ?_
 refine zf (zd (zb (za ?_)))
 refine s_mv ?_
 refine s_mv ?_
 obtain ⟨v1,V1,F1⟩:=zc F0
 refine zv [] (m_slices_Index_int_ok fuel _ _ _ V1) ?_
 refine s_ge ?_
 refine s_as ?_
 refine zf (zd (zh (zn ?_)))
 cases F1
 exact zk [] [] Tryz.results182
def ziO (fuel:Nat):Prop:=∀ (x1:Int) (o1:(List Int)) (r:Bool),zdg fuel x1 o1=some r→AC Tryz.prog 181 [.t (.sc (.int .i64 x1)),.rf 9000 0] (objs [(9000,.box [.t (.sl (o1.map rI))])]) (.t (.sc (.bool r))) (objs [(9000,.box [.t (.sl (o1.map rI))])])
theorem ziN (fuel:Nat):ziO fuel:=by
 intro x1 o1 r F0
 unfold zdg at F0
 refine AC_i [.t (.sc (.bool r))] Tryz.func181 rfl Tryz.ntmps181 ?_
 intro C hC
 refine zb (za ?_)
 refine s_as ?_
 refine zf (zd (zb (za ?_)))
 refine zu yA27 ?_
 refine s_mv ?_
 obtain ⟨v1,V1,F1⟩:=zc F0
 refine zv [] (ziK fuel _ _ _ V1) ?_
 refine zaY ?_
 refine s_as ?_
 refine zf (zd (zh (zn ?_)))
 cases F1
 exact zk _ [] Tryz.results181
def zfB (fuel:Nat):Prop:=∀ (x1:(List Int)) (o1:(List Int)) (r:Int),za5 fuel x1 o1=some r→AC Tryz.prog 180 [.t (.sl (x1.map rI)),.fn 181 [.rf 9000 0]] (objs [(9000,.box [.t (.sl (o1.map rI))])]) (.t (.sc (.int .i64 r))) (objs [(9000,.box [.t (.sl (o1.map rI))])])
theorem zfA (fuel:Nat):zfB fuel:=by
 intro x1 o1 r F0
 unfold za5 at F0
 refine AC_i [.t (.sc (.int .i64 r))] Tryz.func180 rfl Tryz.ntmps180 ?_
 intro C hC
 refine zb (za ?_)
 refine s_as ?_
 refine zf (zd (zb (zb (za ?_))))
 refine s_mv ?_
 refine zC yU27 ?_
 refine s_mv ?_
 refine zf (zd (zl ?_))
 refine zaK (β:=Int) [4,5,8,9,10,11,12,13,14,15,16,17,18] [] [] (fun a=>[(8,.t (.sc (.int .i64 a.2)))]) (fun a=>[]) (fun a=>a.1≤fuel∧zZ a.1 x1 o1 a.2=some r∧0≤a.2) (fuel,0) ⟨Nat.le_refl _,F0,by simp⟩ ?_
 clear F0
 rintro ⟨fu,g1⟩ ⟨hl2,F1,hn_g1⟩
 dsimp only at hl2 F1 hn_g1 ⊢
 obtain _ | fu:=fu
 · rw [zZ] at F1;cases F1
 rw [zZ] at F1
 refine zb (za ?_)
 refine s_lt ?_
 refine zf (zd (zb ?_))
 refine zm F1 ?_ ?_<;>intro C3 F2
 refine zM 0 (fun B4=>?_)
 refine zi (zd (zb (zl (zb (za ?_)))))
 refine s_mv ?_
 refine s_as ?_
 refine zf (zd (zb (za ?_)))
 iterate 3 refine s_mv ?_
 obtain ⟨v5,V5,F3⟩:=zc F2
 refine zK rI V5 rfl yE27 ?_
 refine zu yA3 ?_
 obtain ⟨v6,V6,F4⟩:=zc F3
 refine zY [(9000,9000)] [] _ _ (ziN fu _ _ _ V6) ?_
 refine zf (zd ?_)
 refine zm F4 ?_ ?_<;>intro C7 F5
 refine zb (za ?_)
 refine s_mv ?_
 refine s_as ?_
 refine zf (zd (zh (zj (zg (zw (zj (zg (zn ?_))))))))
 cases F5
 exact zk _ [] Tryz.results180
 refine zi (zW (zd (za ?_)))
 refine zJ (zas C3 B4 hn_g1) ?_
 refine s_mv ?_
 refine zf ?_
 exact s_rn (fu,(g1+1)) ⟨by first | omega | (dsimp only;omega),F5,by first | omega | (dsimp only;omega)⟩
 refine zy (zq (zo (zr (zd (zb (za ?_))))))
 refine s_as ?_
 refine zf (zd (zh (zn ?_)))
 cases F2
 exact zk _ [] Tryz.results180
def zeM (fuel:Nat):Prop:=∀ (x1:(List Int)) (o1:(List Int)) (r:Bool),zaJ fuel x1 o1=some r→AC Tryz.prog 170 [.t (.sl (x1.map rI)),.fn 181 [.rf 9000 0]] (objs [(9000,.box [.t (.sl (o1.map rI))])]) (.t (.sc (.bool r))) (objs [(9000,.box [.t (.sl (o1.map rI))])])
theorem zeL (fuel:Nat):zeM fuel:=by
 intro x1 o1 r F0
 unfold zaJ at F0
 refine AC_i [.t (.sc (.bool r))] Tryz.func170 rfl Tryz.ntmps170 ?_
 intro C hC
 refine zb (za ?_)
 refine s_as ?_
 refine zf (zd (zb (za ?_)))
 refine s_mv ?_
 refine s_mv ?_
 obtain ⟨v1,V1,F1⟩:=zc F0
 refine zY [(9000,9000)] [] _ _ (zfA fuel _ _ _ V1) ?_
 refine s_ge ?_
 refine s_as ?_
 refine zf (zd (zh (zn ?_)))
 cases F1
 exact zk _ [] Tryz.results170
def m_impl_ScopesWithin_AC (fuel:Nat):Prop:=∀ (x1:(List Int)) (x2:(List Int)) (r:Bool),zcU fuel x1 x2=some r→AC Tryz.prog 172 [.t (.sl (x1.map rI)),.t (.sl (x2.map rI))] noOb (.t (.sc (.bool r))) noOb
theorem zhb (fuel:Nat):m_impl_ScopesWithin_AC fuel:=by
 intro x1 x2 r F0
 unfold zcU at F0
 refine AC_i [.t (.sc (.bool r))] Tryz.func172 rfl Tryz.ntmps172 ?_
 intro C hC
 refine zb (za ?_)
 refine zaL ?_
 refine s_as ?_
 refine zf (zd (zb (za ?_)))
 refine s_mv ?_
 refine s_fn ?_
 obtain ⟨v1,V1,F1⟩:=zc F0
 refine zY [(9000,3)] [] _ _ (zeL fuel _ _ _ V1) ?_
 refine zaY ?_
 refine s_as ?_
 refine zf (zd (zh (zn ?_)))
 cases F1
 exact zk [] [] Tryz.results172
def m_impl_fitting_AC (fuel:Nat):Prop:=∀ (x1:(List Bind)) (x2:Form) (r:(List Int)),zgl fuel x1 x2=some r→AC Tryz.prog 169 [.t (.sl (x1.map Bind.row)),.ag [.t (.sc (.int .i64 x2.kind)),.t (.sc (.str x2.name)),.t (.sc (.int .i64 x2.n)),.t (.sl (x2.scopes.map rI)),.t (.sl (x2.kids.map Form.row))]] noOb (.t (.sl (r.map rI))) noOb
theorem m_impl_fitting_ok (fuel:Nat):m_impl_fitting_AC fuel:=by
 intro x1 x2 r F0
 unfold zgl at F0
 refine AC_i [.t (.sl (r.map rI))] Tryz.func169 rfl Tryz.ntmps169 ?_
 intro C hC
 refine zb (za ?_)
 refine zaL ?_
 refine s_as ?_
 refine zf (zd (zb (za ?_)))
 refine s_bs rI ([]:List Int) yP27 yR3 ?_
 refine s_as ?_
 refine zf (zd (zb (zb (za ?_))))
 refine s_mv ?_
 refine zC yU30 ?_
 refine s_mv ?_
 refine zf (zd (zl ?_))
 refine zcZ 5 8 5020 (by conv=>lhs;whnf) (by conv=>lhs;whnf) rfl ?_
 refine zal [5,6,7,11,12,13,14,15,16,17,18,19,20,21,22,23,24,25,26,27,28,29,30,31,32] [5020] [7,30,31] [5020] (fun a:Nat × (List Int) × Int=>a.1) (fun a:Nat × (List Int) × Int=>[(5,.ar 5020),(11,.t (.sc (.int .i64 a.2.2)))]) (fun a:Nat × (List Int) × Int=>[(5020,.arr (a.2.1.map rI) 3 true)]) (fun a:Nat × (List Int) × Int=>a.1≤fuel∧zbX a.1 x1 x2 a.2.1 a.2.2=some r∧0≤a.2.2) (fuel,([]:List Int),0) ⟨Nat.le_refl _,F0,by simp⟩ (by rfl) (by rfl) (fun _=>rfl) (zH (by conv=>lhs;whnf) (by rfl) (zH (by conv=>lhs;whnf) (by rfl) zaV)) (zL (by conv=>lhs;whnf) (by rfl) zaG) (zbM hC rfl) (by repeat (first | exact z6 rfl | refine zaj rfl ?_ | refine zP rfl ?_)) (by repeat (first | exact zax | exact z9 rfl | refine zak rfl ?_ | refine zQ rfl ?_)) ?_
 clear F0
 rintro ⟨fu,g1,g2⟩ ⟨hl3,F1,hn_g2⟩
 dsimp only at hl3 F1 hn_g2 ⊢
 obtain _ | fu:=fu
 · rw [zbX] at F1;cases F1
 rw [zbX] at F1
 refine zb (za ?_)
 refine s_lt ?_
 refine zf (zd (zb ?_))
 refine zm F1 ?_ ?_<;>intro C4 F2
 refine zM 0 (fun B5=>?_)
 refine zi (zd (zb (zl (zb (za ?_)))))
 refine s_mv ?_
 obtain ⟨v6,V6,F3⟩:=zc F2
 refine zK Bind.row V6 (Bind.row_eq _) yE30 ?_
 refine zam yA117 yS117 ?_
 refine zU yZ117 ?_
 refine s_as ?_
 refine zac yS117 ?_
 refine zf (zd ?_)
 refine zbb (α:=Nat × Bool) [16,17,18,19,20,21,22,23,24,25,26,27] [] [] (fun a=>[(27,.t (.sc (.bool a.2)))]) (fun a=>[]) (fun a=>a.1≤fu∧zcT a.1 x1 x2 g1 g2 a.2=some r) ?_ ?_
 refine za ?_
 refine s_fa yF117_0 ?_
 refine zu yA9 ?_
 refine s_fa zcm ?_
 refine zu yA9 ?_
 refine zhr ?_
 refine s_mv ?_
 refine zp _ 21 F3 ?_ ?_<;>intro C7 F4
 refine s_fa zhB ?_
 refine zu yA27 ?_
 refine s_fa zf3 ?_
 refine zu yA27 ?_
 obtain ⟨v8,V8,F5⟩:=zc F4
 refine zv [] (zhb fu _ _ _ V8) ?_
 refine zA ?_
 refine zf ?_
 exact s_jn (fu,v8) ⟨by first | omega | (dsimp only;omega),F5⟩
 iterate 5 refine r_no rfl ?_
 refine zz ?_
 refine zf ?_
 exact s_jn (fu,false) ⟨by first | omega | (dsimp only;omega),F4⟩
 clear F3
 rintro ⟨fu,g9⟩ ⟨hl10,F4⟩
 dsimp only at hl10 F4 ⊢
 obtain _ | fu:=fu
 · rw [zcT] at F4;cases F4
 rw [zcT] at F4
 refine zm F4 ?_ ?_<;>intro C11 F5
 refine za ?_
 refine s_mv ?_
 refine s_mv ?_
 refine s_bs rI [g2] yP27 yR3 ?_
 obtain ⟨hk12,F6⟩:=zad F5
 refine zek rI (fun _=>rfl) hk12 yP27 ?_
 refine s_as ?_
 refine zf (zW (zd (za ?_)))
 refine zJ (zas C4 B5 hn_g2) ?_
 refine s_mv ?_
 refine zf ?_
 exact s_rn (fu,(g1++[g2]),(g2+1)) ⟨by first | omega | (dsimp only;omega),F6,by first | omega | (dsimp only;omega)⟩ [(5020,31)]
 refine zi (zW (zd (za ?_)))
 refine zJ (zas C4 B5 hn_g2) ?_
 refine s_mv ?_
 refine zf ?_
 exact s_rn (fu,g1,(g2+1)) ⟨by first | omega | (dsimp only;omega),F5,by first | omega | (dsimp only;omega)⟩
 refine zy (zq (zo (zr (zd (zb (za ?_))))))
 refine s_mv ?_
 refine s_as ?_
 refine zf (zd (zh (zn ?_)))
 cases F2
 exact zk [] [5020] Tryz.results169
def m_impl_bound_1_AC (fuel:Nat):Prop:=∀ (x1:Int) (o1:(List Bind)) (o2:Int) (r:Bool),zgn fuel x1 o1 o2=some r→AC Tryz.prog 171 [.t (.sc (.int .i64 x1)),.rf 9000 0,.rf 9001 0] (objs [(9000,.box [.t (.sl (o1.map Bind.row))]),(9001,.box [.t (.sc (.int .i64 o2))])]) (.t (.sc (.bool r))) (objs [(9000,.box [.t (.sl (o1.map Bind.row))]),(9001,.box [.t (.sc (.int .i64 o2))])])
theorem m_impl_bound_1_ok (fuel:Nat):m_impl_bound_1_AC fuel:=by
 intro x1 o1 o2 r F0
 unfold zgn at F0
 refine AC_i [.t (.sc (.bool r))] Tryz.func171 rfl Tryz.ntmps171 ?_
 intro C hC
 refine zb (za ?_)
 refine s_as ?_
 refine zf (zd (zb ?_))
 refine zO yMix (by kernel_rfl) ?_
 refine zu yA30 ?_
 refine s_mv ?_
 obtain ⟨v1,V1,F1⟩:=zc F0
 refine zK Bind.row V1 (Bind.row_eq _) yE30 ?_
 refine s_fa zhB ?_
 refine zu yA27 ?_
 refine zu yA30 ?_
 refine zu yA3 ?_
 obtain ⟨v2,V2,F2⟩:=zc F1
 refine zK Bind.row V2 (Bind.row_eq _) yE30 ?_
 refine s_fa zhB ?_
 refine zu yA27 ?_
 obtain ⟨v3,V3,F3⟩:=zc F2
 refine zv [] (zhb fuel _ _ _ V3) ?_
 refine zaY ?_
 refine s_as ?_
 refine zae (by kernel_rfl) ?_
 refine zd (zh (zn ?_))
 cases F3
 exact zk _ [] Tryz.results171
def zgY (fuel:Nat):Prop:=∀ (x1:(List Int)) (o1:(List Bind)) (o2:Int) (r:Int),zbY fuel x1 o1 o2=some r→AC Tryz.prog 180 [.t (.sl (x1.map rI)),.fn 171 [.rf 9000 0,.rf 9001 0]] (objs [(9000,.box [.t (.sl (o1.map Bind.row))]),(9001,.box [.t (.sc (.int .i64 o2))])]) (.t (.sc (.int .i64 r))) (objs [(9000,.box [.t (.sl (o1.map Bind.row))]),(9001,.box [.t (.sc (.int .i64 o2))])])
theorem zgX (fuel:Nat):zgY fuel:=by
 intro x1 o1 o2 r F0
 unfold zbY at F0
 refine AC_i [.t (.sc (.int .i64 r))] Tryz.func180 rfl Tryz.ntmps180 ?_
 intro C hC
 refine zb (za ?_)
 refine s_as ?_
 refine zf (zd (zb (zb (za ?_))))
 refine s_mv ?_
 refine zC yU27 ?_
 refine s_mv ?_
 refine zf (zd (zl ?_))
 refine zaK (β:=Int) [4,5,8,9,10,11,12,13,14,15,16,17,18] [] [] (fun a=>[(8,.t (.sc (.int .i64 a.2)))]) (fun a=>[]) (fun a=>a.1≤fuel∧zan a.1 x1 o1 o2 a.2=some r∧0≤a.2) (fuel,0) ⟨Nat.le_refl _,F0,by simp⟩ ?_
 clear F0
 rintro ⟨fu,g1⟩ ⟨hl2,F1,hn_g1⟩
 dsimp only at hl2 F1 hn_g1 ⊢
 obtain _ | fu:=fu
 · rw [zan] at F1;cases F1
 rw [zan] at F1
 refine zb (za ?_)
 refine s_lt ?_
 refine zf (zd (zb ?_))
 refine zm F1 ?_ ?_<;>intro C3 F2
 refine zM 0 (fun B4=>?_)
 refine zi (zd (zb (zl (zb (za ?_)))))
 refine s_mv ?_
 refine s_as ?_
 refine zf (zd (zb (za ?_)))
 iterate 3 refine s_mv ?_
 obtain ⟨v5,V5,F3⟩:=zc F2
 refine zK rI V5 rfl yE27 ?_
 refine zu yA3 ?_
 obtain ⟨v6,V6,F4⟩:=zc F3
 refine zY [(9000,9000),(9001,9001)] [] _ _ (m_impl_bound_1_ok fu _ _ _ _ V6) ?_
 refine zf (zd ?_)
 refine zm F4 ?_ ?_<;>intro C7 F5
 refine zb (za ?_)
 refine s_mv ?_
 refine s_as ?_
 refine zf (zd (zh (zj (zg (zw (zj (zg (zn ?_))))))))
 cases F5
 exact zk _ [] Tryz.results180
 refine zi (zW (zd (za ?_)))
 refine zJ (zas C3 B4 hn_g1) ?_
 refine s_mv ?_
 refine zf ?_
 exact s_rn (fu,(g1+1)) ⟨by first | omega | (dsimp only;omega),F5,by first | omega | (dsimp only;omega)⟩
 refine zy (zq (zo (zr (zd (zb (za ?_))))))
 refine s_as ?_
 refine zf (zd (zh (zn ?_)))
 cases F2
 exact zk _ [] Tryz.results180
def zgf (fuel:Nat):Prop:=∀ (x1:(List Int)) (o1:(List Bind)) (o2:Int) (r:Bool),zbE fuel x1 o1 o2=some r→AC Tryz.prog 170 [.t (.sl (x1.map rI)),.fn 171 [.rf 9000 0,.rf 9001 0]] (objs [(9000,.box [.t (.sl (o1.map Bind.row))]),(9001,.box [.t (.sc (.int .i64 o2))])]) (.t (.sc (.bool r))) (objs [(9000,.box [.t (.sl (o1.map Bind.row))]),(9001,.box [.t (.sc (.int .i64 o2))])])
theorem zge (fuel:Nat):zgf fuel:=by
 intro x1 o1 o2 r F0
 unfold zbE at F0
 refine AC_i [.t (.sc (.bool r))] Tryz.func170 rfl Tryz.ntmps170 ?_
 intro C hC
 refine zb (za ?_)
 refine s_as ?_
 refine zf (zd (zb (za ?_)))
 refine s_mv ?_
 refine s_mv ?_
 obtain ⟨v1,V1,F1⟩:=zc F0
 refine zY [(9000,9000),(9001,9001)] [] _ _ (zgX fuel _ _ _ _ V1) ?_
 refine s_ge ?_
 refine s_as ?_
 refine zf (zd (zh (zn ?_)))
 cases F1
 exact zk _ [] Tryz.results170
def m_impl_bound_AC (fuel:Nat):Prop:=∀ (x1:(List Bind)) (x2:Form) (r:(Int × Int)),zhx fuel x1 x2=some r→AC Tryz.prog 157 [.t (.sl (x1.map Bind.row)),.ag [.t (.sc (.int .i64 x2.kind)),.t (.sc (.str x2.name)),.t (.sc (.int .i64 x2.n)),.t (.sl (x2.scopes.map rI)),.t (.sl (x2.kids.map Form.row))]] noOb (.tp [.t (.sc (.int .i64 r.1)),.t (.sc (.int .i64 r.2))]) noOb
theorem m_impl_bound_ok (fuel:Nat):m_impl_bound_AC fuel:=by
 intro x1 x2 r F0
 unfold zhx at F0
 refine AC_i [.t (.sc (.int .i64 r.1)),.t (.sc (.int .i64 r.2))] Tryz.func157 rfl Tryz.ntmps157 ?_
 intro C hC
 refine zb (za ?_)
 refine zaL ?_
 refine zaL ?_
 refine s_as ?_
 refine s_as ?_
 refine zf (zd (zb (za ?_)))
 refine zu yA30 ?_
 refine zI yA32 yS32 ?_
 obtain ⟨v1,V1,F1⟩:=zc F0
 refine zv [] (m_impl_fitting_ok fuel _ _ _ V1) ?_
 refine s_as ?_
 refine zf (zd (zb (zb (za ?_))))
 refine s_mv ?_
 refine zC yU27 ?_
 refine s_eq ?_
 refine zf (zd ?_)
 refine zm F1 ?_ ?_<;>intro C2 F2
 refine zb (za ?_)
 refine s_as ?_
 refine s_as ?_
 refine zf (zd (zh (zg (zn ?_))))
 cases F2
 exact zk [] [] Tryz.results157
 refine zi (zd (zb (zb (za ?_))))
 refine s_mv ?_
 refine zC yU27 ?_
 refine s_mv ?_
 refine zf (zd (zl ?_))
 refine zaK (β:=Int) [4,5,8,17,18,19,20,21,22,23,24,25,26] [] [8] (fun a=>[(17,.t (.sc (.int .i64 a.2)))]) (fun a=>[]) (fun a=>a.1≤fuel∧zdf a.1 x1 v1 a.2=some r∧0≤a.2) (fuel,0) ⟨Nat.le_refl _,F2,by simp⟩ ?_
 clear F2
 rintro ⟨fu,g3⟩ ⟨hl4,F3,hn_g3⟩
 dsimp only at hl4 F3 hn_g3 ⊢
 obtain _ | fu:=fu
 · rw [zdf] at F3;cases F3
 rw [zdf] at F3
 refine zb (za ?_)
 refine s_lt ?_
 refine zf (zd (zb ?_))
 refine zm F3 ?_ ?_<;>intro C5 F4
 refine zM 6 (fun B6=>?_)
 refine zi (zd (zb (zl (zb (za ?_)))))
 obtain ⟨v7,V7,F5⟩:=zc F4
 refine zK rI V7 rfl yE27 ?_
 refine zu yA3 ?_
 refine zU yZ3 ?_
 refine zac yS3 ?_
 refine zf (zd (zb (za ?_)))
 refine s_mv ?_
 refine s_fn ?_
 obtain ⟨v8,V8,F6⟩:=zc F5
 refine zY [(9000,2),(9001,8)] [] _ _ (zge fu _ _ _ _ V8) ?_
 refine zaY ?_
 refine zf (zd ?_)
 refine zm F6 ?_ ?_<;>intro C9 F7
 refine zb (za ?_)
 refine zu yA3 ?_
 refine s_as ?_
 refine s_as ?_
 refine zf (zd (zh (zj (zg (zw (zj (zg (zn ?_))))))))
 cases F7
 exact zk [] [] Tryz.results157
 refine zi (zW (zd (za ?_)))
 refine zJ (zas C5 B6 hn_g3) ?_
 refine s_mv ?_
 refine zf ?_
 exact s_rn (fu,(g3+1)) ⟨by first | omega | (dsimp only;omega),F7,by first | omega | (dsimp only;omega)⟩
 refine zy (zq (zo (zr (zd (zb (za ?_))))))
 refine s_as ?_
 refine s_as ?_
 refine zf (zd (zh (zn ?_)))
 cases F4
 exact zk [] [] Tryz.results157
def m_impl_FindName_AC (fuel:Nat):Prop:=∀ (x1:(List Bind)) (x2:Form) (r:(Int × Int)),zeF fuel x1 x2=some r→AC Tryz.prog 128 [.t (.sl (x1.map Bind.row)),.ag [.t (.sc (.int .i64 x2.kind)),.t (.sc (.str x2.name)),.t (.sc (.int .i64 x2.n)),.t (.sl (x2.scopes.map rI)),.t (.sl (x2.kids.map Form.row))]] noOb (.tp [.t (.sc (.int .i64 r.1)),.t (.sc (.int .i64 r.2))]) noOb
theorem zil (fuel:Nat):m_impl_FindName_AC fuel:=by
 intro x1 x2 r F0
 unfold zeF at F0
 refine AC_i [.t (.sc (.int .i64 r.1)),.t (.sc (.int .i64 r.2))] Tryz.func128 rfl Tryz.ntmps128 ?_
 intro C hC
 refine zb (za ?_)
 refine zaL ?_
 refine s_as ?_
 refine s_as ?_
 refine zf (zd (zb ?_))
 refine zbb (α:=Nat × Bool) [8,9,10,11,12,13,14,15] [] [] (fun a=>[(15,.t (.sc (.bool a.2)))]) (fun a=>[]) (fun a=>a.1≤fuel∧zdl a.1 x1 x2 a.2=some r) ?_ ?_
 refine za ?_
 refine s_mv ?_
 obtain ⟨v1,V1,F1⟩:=zc F0
 refine zv [] (zf4 fuel _ _ V1) ?_
 refine zaY ?_
 refine s_mv ?_
 refine zp _ 11 F1 ?_ ?_<;>intro C2 F2
 iterate 3 refine r_no rfl ?_
 refine zA ?_
 refine zf ?_
 exact s_jn (fuel,true) ⟨by first | omega | (dsimp only;omega),F2⟩
 refine zI yA32 yS32 ?_
 obtain ⟨v3,V3,F3⟩:=zc F2
 refine zv [] (zff fuel _ _ V3) ?_
 refine zaY ?_
 refine zz ?_
 refine zf ?_
 exact s_jn (fuel,(!v3)) ⟨by first | omega | (dsimp only;omega),F3⟩
 clear F0
 rintro ⟨fu,g4⟩ ⟨hl5,F1⟩
 dsimp only at hl5 F1 ⊢
 obtain _ | fu:=fu
 · rw [zdl] at F1;cases F1
 rw [zdl] at F1
 refine zm F1 ?_ ?_<;>intro C6 F2
 refine zb (za ?_)
 refine s_as ?_
 refine s_as ?_
 refine zf (zd (zh (zg (zn ?_))))
 cases F2
 exact zk [] [] Tryz.results128
 refine zi (zd (zb (za ?_)))
 refine s_mv ?_
 refine zI yA32 yS32 ?_
 obtain ⟨v7,V7,F3⟩:=zc F2
 refine zv [] (m_impl_bound_ok fu _ _ _ V7) ?_
 refine s_mv ?_
 refine zbf ?_
 refine zbf ?_
 refine s_as ?_
 refine s_as ?_
 refine zf (zd (zb (zb (za ?_))))
 refine s_mv ?_
 refine s_ne ?_
 refine zf (zd ?_)
 refine zm F3 ?_ ?_<;>intro C8 F4
 refine zb (za ?_)
 refine s_mv ?_
 refine s_as ?_
 refine s_as ?_
 refine zf (zd (zh (zg (zn ?_))))
 cases F4
 exact zk [] [] Tryz.results128
 refine zi (zd (zb (za ?_)))
 refine s_mv ?_
 refine s_mv ?_
 obtain ⟨v9,V9,F5⟩:=zc F4
 refine zK Bind.row V9 (Bind.row_eq _) yE30 ?_
 refine s_fa yF117_2 ?_
 refine zu yA3 ?_
 refine s_as ?_
 refine s_as ?_
 refine zf (zd (zh (zn ?_)))
 cases F5
 exact zk [] [] Tryz.results128
def zjb (fuel:Nat):Prop:=∀ (x1:(List Bind)) (x2:Form) (x3:Form) (r:Bool),zdy fuel x1 x2 x3=some r→AC Tryz.prog 78 [.t (.sl (x1.map Bind.row)),.ag [.t (.sc (.int .i64 x2.kind)),.t (.sc (.str x2.name)),.t (.sc (.int .i64 x2.n)),.t (.sl (x2.scopes.map rI)),.t (.sl (x2.kids.map Form.row))],.ag [.t (.sc (.int .i64 x3.kind)),.t (.sc (.str x3.name)),.t (.sc (.int .i64 x3.n)),.t (.sl (x3.scopes.map rI)),.t (.sl (x3.kids.map Form.row))]] noOb (.t (.sc (.bool r))) noOb
theorem zja (fuel:Nat):zjb fuel:=by
 intro x1 x2 x3 r F0
 unfold zdy at F0
 refine AC_i [.t (.sc (.bool r))] Tryz.func78 rfl Tryz.ntmps78 ?_
 intro C hC
 refine zb (za ?_)
 refine zaL ?_
 refine zaL ?_
 refine s_as ?_
 refine zf (zd (zb ?_))
 refine zbb (α:=Nat × Bool) [11,12,13,14,15,16,17,18,19,20,21,22,23] [] [] (fun a=>[(23,.t (.sc (.bool a.2)))]) (fun a=>[]) (fun a=>a.1≤fuel∧zaC a.1 x1 x2 x3 a.2=some r) ?_ ?_
 refine za ?_
 refine s_mv ?_
 obtain ⟨v1,V1,F1⟩:=zc F0
 refine zv [] (zf4 fuel _ _ V1) ?_
 refine zaY ?_
 refine s_mv ?_
 refine zp _ 14 F1 ?_ ?_<;>intro C2 F2
 iterate 3 refine r_no rfl ?_
 refine zA ?_
 refine s_mv ?_
 iterate 3 refine r_no rfl ?_
 refine zA ?_
 refine zf ?_
 exact s_jn (fuel,true) ⟨by first | omega | (dsimp only;omega),F2⟩
 refine zI yA32 yS32 ?_
 obtain ⟨v3,V3,F3⟩:=zc F2
 refine zv [] (zff fuel _ _ V3) ?_
 refine zaY ?_
 refine zz ?_
 refine s_mv ?_
 refine zp _ 19 F3 ?_ ?_<;>intro C4 F4
 iterate 3 refine r_no rfl ?_
 refine zA ?_
 refine zf ?_
 exact s_jn (fuel,true) ⟨by first | omega | (dsimp only;omega),F4⟩
 refine zI yA32 yS32 ?_
 obtain ⟨v5,V5,F5⟩:=zc F4
 refine zv [] (zff fuel _ _ V5) ?_
 refine zaY ?_
 refine zz ?_
 refine zf ?_
 exact s_jn (fuel,(!v5)) ⟨by first | omega | (dsimp only;omega),F5⟩
 clear F0
 rintro ⟨fu,g6⟩ ⟨hl7,F1⟩
 dsimp only at hl7 F1 ⊢
 obtain _ | fu:=fu
 · rw [zaC] at F1;cases F1
 rw [zaC] at F1
 refine zm F1 ?_ ?_<;>intro C8 F2
 refine zb (za ?_)
 refine s_as ?_
 refine zf (zd (zh (zg (zn ?_))))
 cases F2
 exact zk [] [] Tryz.results78
 refine zi (zd (zb (za ?_)))
 refine s_mv ?_
 refine zI yA32 yS32 ?_
 obtain ⟨v9,V9,F3⟩:=zc F2
 refine zv [] (zil fu _ _ _ V9) ?_
 refine s_mv ?_
 refine zbf ?_
 refine zbf ?_
 refine s_as ?_
 refine s_as ?_
 refine zf (zd (zb (za ?_)))
 refine s_mv ?_
 refine zI yA32 yS32 ?_
 obtain ⟨v10,V10,F4⟩:=zc F3
 refine zv [] (zil fu _ _ _ V10) ?_
 refine s_mv ?_
 refine zbf ?_
 refine zbf ?_
 refine s_as ?_
 refine s_as ?_
 refine zf (zd (zb (za ?_)))
 refine s_mv ?_
 refine s_eq ?_
 refine s_mv ?_
 refine zp _ 38 F4 ?_ ?_<;>intro C11 F5
 refine s_mv ?_
 refine s_eq ?_
 refine zA ?_
 refine s_mv ?_
 refine zp _ 42 F5 ?_ ?_<;>intro C12 F6
 refine s_mv ?_
 refine s_mv ?_
 refine s_eq ?_
 refine zA ?_
 refine s_mv ?_
 refine zp _ 47 F6 ?_ ?_<;>intro C13 F7
 iterate 13 refine r_no rfl ?_
 refine zA ?_
 refine s_as ?_
 refine zf (zd (zh (zn ?_)))
 cases F7
 exact zk [] [] Tryz.results78
 refine s_mv ?_
 refine s_eq ?_
 refine s_mv ?_
 refine zp _ 50 F7 ?_ ?_<;>intro C14 F8
 refine s_mv ?_
 refine s_eq ?_
 refine zA ?_
 refine s_mv ?_
 refine zp _ 54 F8 ?_ ?_<;>intro C15 F9
 refine s_fa zcm ?_
 refine zu yA9 ?_
 refine s_fa zcm ?_
 refine zu yA9 ?_
 refine zhr ?_
 refine zA ?_
 refine zz ?_
 refine s_as ?_
 refine zf (zd (zh (zn ?_)))
 cases F9
 exact zk [] [] Tryz.results78
 iterate 5 refine r_no rfl ?_
 refine zz ?_
 refine zz ?_
 refine s_as ?_
 refine zf (zd (zh (zn ?_)))
 cases F9
 exact zk [] [] Tryz.results78
 refine r_no rfl (r_no rfl ?_)
 refine zz ?_
 refine s_mv ?_
 iterate 5 refine r_no rfl ?_
 refine zz ?_
 refine zz ?_
 refine s_as ?_
 refine zf (zd (zh (zn ?_)))
 cases F8
 exact zk [] [] Tryz.results78
 iterate 3 refine r_no rfl ?_
 refine zz ?_
 refine s_mv ?_
 refine s_mv ?_
 refine s_eq ?_
 refine s_mv ?_
 refine zp _ 50 F6 ?_ ?_<;>intro C16 F7
 refine s_mv ?_
 refine s_eq ?_
 refine zA ?_
 refine s_mv ?_
 refine zp _ 54 F7 ?_ ?_<;>intro C17 F8
 refine s_fa zcm ?_
 refine zu yA9 ?_
 refine s_fa zcm ?_
 refine zu yA9 ?_
 refine zhr ?_
 refine zA ?_
 refine zz ?_
 refine s_as ?_
 refine zf (zd (zh (zn ?_)))
 cases F8
 exact zk [] [] Tryz.results78
 iterate 5 refine r_no rfl ?_
 refine zz ?_
 refine zz ?_
 refine s_as ?_
 refine zf (zd (zh (zn ?_)))
 cases F8
 exact zk [] [] Tryz.results78
 refine r_no rfl (r_no rfl ?_)
 refine zz ?_
 refine s_mv ?_
 iterate 5 refine r_no rfl ?_
 refine zz ?_
 refine zz ?_
 refine s_as ?_
 refine zf (zd (zh (zn ?_)))
 cases F7
 exact zk [] [] Tryz.results78
 refine r_no rfl (r_no rfl ?_)
 refine zz ?_
 refine s_mv ?_
 iterate 3 refine r_no rfl ?_
 refine zz ?_
 refine s_mv ?_
 refine s_mv ?_
 refine s_eq ?_
 refine s_mv ?_
 refine zp _ 50 F5 ?_ ?_<;>intro C18 F6
 refine s_mv ?_
 refine s_eq ?_
 refine zA ?_
 refine s_mv ?_
 refine zp _ 54 F6 ?_ ?_<;>intro C19 F7
 refine s_fa zcm ?_
 refine zu yA9 ?_
 refine s_fa zcm ?_
 refine zu yA9 ?_
 refine zhr ?_
 refine zA ?_
 refine zz ?_
 refine s_as ?_
 refine zf (zd (zh (zn ?_)))
 cases F7
 exact zk [] [] Tryz.results78
 iterate 5 refine r_no rfl ?_
 refine zz ?_
 refine zz ?_
 refine s_as ?_
 refine zf (zd (zh (zn ?_)))
 cases F7
 exact zk [] [] Tryz.results78
 refine r_no rfl (r_no rfl ?_)
 refine zz ?_
 refine s_mv ?_
 iterate 5 refine r_no rfl ?_
 refine zz ?_
 refine zz ?_
 refine s_as ?_
 refine zf (zd (zh (zn ?_)))
 cases F6
 exact zk [] [] Tryz.results78
end Go.Abs
