/- A part of the proof: what the functions that the law calls answer, as pure values. -/
import Derived.Test.YtjjjnhpghhamkaaGreatKc0fe836f7e33
import Derived.Test.YtjjjnhpghhamkaaGreatK8d582f2e31e6
import Derived.Test.YtjjjnhpghhamkaaGreatKb3ff0bcd54fa
import Derived.Test.YtjjjnhpghhamkaaGreatK4ee70f842008
import Derived.Test.YtjjjnhpghhamkaaGreatK0782c27d5cbf
import Derived.Test.YtjjjnhpghhamkaaGreatK91f32b36ae25
import Derived.Test.YtjjjnhpghhamkaaGreatKcd84e5c3a6fe
import Derived.Test.YtjjjnhpghhamkaaGreatK48decf646e3b
import Derived.Test.YtjjjnhpghhamkaaGreatKfe938720da0d
set_option linter.unusedSimpArgs false
set_option linter.unusedVariables false
set_option maxRecDepth 100000
set_option maxHeartbeats 4000000
namespace Go.Abs
open Go.Proofs
theorem m_spec_l5Fill_all (fuel:Nat):zgt fuel:=by
 induction fuel using Nat.strongRecOn with
 | _ N ih =>
   cases N with
   | zero=>exact (by intro x1 x2 r h;rw [zdB] at h;cases h)
   | succ fu=>exact m_spec_l5Fill_st fu (fun k hk=>(ih k (by omega)))
theorem m_spec_l5Fill_ok (fuel:Nat):zgt fuel:=(m_spec_l5Fill_all fuel)
def ziR (fuel:Nat):Prop:=∀ (x1:(List Int)) (r:((List Bind) × (List Rule) × (List Form) × Form)),zdc fuel x1=some r→AC Tryz.prog 55 [.t (.sl (x1.map rB))] noOb (.tp [.t (.sl (r.1.map Bind.row)),.t (.sl (r.2.1.map Rule.row)),.t (.sl (r.2.2.1.map Form.row)),.ag [.t (.sc (.int .i64 r.2.2.2.kind)),.t (.sc (.str r.2.2.2.name)),.t (.sc (.int .i64 r.2.2.2.n)),.t (.sl (r.2.2.2.scopes.map rI)),.t (.sl (r.2.2.2.kids.map Form.row))]]) noOb
theorem ziQ (fuel:Nat):ziR fuel:=by
 intro x1 r F0
 unfold zdc at F0
 refine AC_i [.t (.sl (r.1.map Bind.row)),.t (.sl (r.2.1.map Rule.row)),.t (.sl (r.2.2.1.map Form.row)),.ag [.t (.sc (.int .i64 r.2.2.2.kind)),.t (.sc (.str r.2.2.2.name)),.t (.sc (.int .i64 r.2.2.2.n)),.t (.sl (r.2.2.2.scopes.map rI)),.t (.sl (r.2.2.2.kids.map Form.row))]] Tryz.func55 rfl Tryz.ntmps55 ?_
 intro C hC
 refine zb (za ?_)
 iterate 3 refine s_as ?_
 refine zU yZ27 ?_
 refine zf (zd (zb (za ?_)))
 refine s_mv ?_
 obtain ⟨v1,V1,F1⟩:=zc F0
 refine zv [] (zjb fuel _ _ V1) ?_
 iterate 4 refine za4 ?_
 iterate 3 refine s_as ?_
 refine zab yS27 ?_
 refine zf (zd (zh (zn ?_)))
 cases F1
 exact zZ [] [] (by rw [Tryz.results55];exact (zaj (by conv=>lhs;whnf) (zaj (by conv=>lhs;whnf) (zaj (by conv=>lhs;whnf) (zas (by conv=>lhs;whnf) (by conv=>lhs;whnf) yA27 yS27 rfl zae)))))
def m_impl_ApplyRules_AC (fuel:Nat):Prop:=∀ (x1:(List Bind)) (x2:(List Rule)) (x3:(List Form)) (x4:Form) (r:(Form × Bool)),zeH fuel x1 x2 x3 x4=some r→AC Tryz.prog 56 [.t (.sl (x1.map Bind.row)),.t (.sl (x2.map Rule.row)),.t (.sl (x3.map Form.row)),.ag [.t (.sc (.int .i64 x4.kind)),.t (.sc (.str x4.name)),.t (.sc (.int .i64 x4.n)),.t (.sl (x4.scopes.map rI)),.t (.sl (x4.kids.map Form.row))]] noOb (.tp [.ag [.t (.sc (.int .i64 r.1.kind)),.t (.sc (.str r.1.name)),.t (.sc (.int .i64 r.1.n)),.t (.sl (r.1.scopes.map rI)),.t (.sl (r.1.kids.map Form.row))],.t (.sc (.bool r.2))]) noOb
theorem m_impl_ApplyRules_ok (fuel:Nat):m_impl_ApplyRules_AC fuel:=by
 intro x1 x2 x3 x4 r F0
 unfold zeH at F0
 refine AC_i [.ag [.t (.sc (.int .i64 r.1.kind)),.t (.sc (.str r.1.name)),.t (.sc (.int .i64 r.1.n)),.t (.sl (r.1.scopes.map rI)),.t (.sl (r.1.kids.map Form.row))],.t (.sc (.bool r.2))] Tryz.func56 rfl Tryz.ntmps56 ?_
 intro C hC
 refine zb (za ?_)
 refine zaN ?_
 refine zU yZ27 ?_
 refine s_as ?_
 refine zf (zd (zb (za ?_)))
 iterate 3 refine s_mv ?_
 refine zG yA27 yS27 ?_
 obtain ⟨v1,V1,F1⟩:=zc F0
 refine zv [] (zh9 fuel _ _ _ _ _ V1) ?_
 refine s_mv ?_
 refine za4 ?_
 refine za4 ?_
 refine s_as ?_
 refine s_as ?_
 refine zf (zd (zb (zb (za ?_))))
 refine s_mv ?_
 refine zaG ?_
 refine zf (zd ?_)
 refine zm F1 ?_ ?_<;>intro C2 F2
 refine zb (za ?_)
 refine zgE yZ27 yL27 ?_
 refine zab yS27 ?_
 refine s_as ?_
 refine zf (zd (zh (zg (zn ?_))))
 cases F2
 exact zZ [] [] (by rw [Tryz.results56];exact (zas (by conv=>lhs;whnf) (by conv=>lhs;whnf) yA27 yS27 rfl (zaj (by conv=>lhs;whnf) zae)))
 refine zi (zd (zb ?_))
 refine zP yMix (by kernel_rfl) ?_
 iterate 3 refine s_mv ?_
 obtain ⟨v3,V3,F3⟩:=zc F2
 refine zK Rule.row V3 (Rule.row_eq _) yE62 ?_
 refine s_fa zhX ?_
 refine zai yA27 yS27 ?_
 refine s_mv ?_
 refine zG yA27 yS27 ?_
 obtain ⟨v4,V4,F4⟩:=zc F3
 refine zv [] (zh5 fuel _ _ _ _ _ V4) ?_
 refine s_mv ?_
 refine za4 ?_
 refine za4 ?_
 refine s_as ?_
 refine s_as ?_
 refine zah (by kernel_rfl) ?_
 refine zd (zb (za ?_))
 refine s_mv ?_
 refine s_mv ?_
 obtain ⟨v5,V5,F5⟩:=zc F4
 refine zK Rule.row V5 (Rule.row_eq _) yE62 ?_
 refine s_fa yF73_1 ?_
 refine zai yA27 yS27 ?_
 refine s_mv ?_
 obtain ⟨v6,V6,F6⟩:=zc F5
 refine zv [] (zhh fuel _ _ _ V6) ?_
 refine za4 ?_
 refine za4 ?_
 refine zab yS27 ?_
 refine s_as ?_
 refine zf (zd (zh (zn ?_)))
 cases F6
 exact zZ [] [] (by rw [Tryz.results56];exact (zas (by conv=>lhs;whnf) (by conv=>lhs;whnf) yA27 yS27 rfl (zaj (by conv=>lhs;whnf) zae)))
def m_spec_l15OwnRule_AC (fuel:Nat):Prop:=∀ (x1:Rule) (r:Rule),zf4 fuel x1=some r→AC Tryz.prog 174 [.ag [.t (.sc (.int .i64 x1.pattern.kind)),.t (.sc (.str x1.pattern.name)),.t (.sc (.int .i64 x1.pattern.n)),.t (.sl (x1.pattern.scopes.map rI)),.t (.sl (x1.pattern.kids.map Form.row)),.t (.sc (.int .i64 x1.template.kind)),.t (.sc (.str x1.template.name)),.t (.sc (.int .i64 x1.template.n)),.t (.sl (x1.template.scopes.map rI)),.t (.sl (x1.template.kids.map Form.row))]] noOb (.ag [.t (.sc (.int .i64 r.pattern.kind)),.t (.sc (.str r.pattern.name)),.t (.sc (.int .i64 r.pattern.n)),.t (.sl (r.pattern.scopes.map rI)),.t (.sl (r.pattern.kids.map Form.row)),.t (.sc (.int .i64 r.template.kind)),.t (.sc (.str r.template.name)),.t (.sc (.int .i64 r.template.n)),.t (.sl (r.template.scopes.map rI)),.t (.sl (r.template.kids.map Form.row))]) noOb
theorem m_spec_l15OwnRule_ok (fuel:Nat):m_spec_l15OwnRule_AC fuel:=by
 intro x1 r F0
 unfold zf4 at F0
 refine AC_i [.ag [.t (.sc (.int .i64 r.pattern.kind)),.t (.sc (.str r.pattern.name)),.t (.sc (.int .i64 r.pattern.n)),.t (.sl (r.pattern.scopes.map rI)),.t (.sl (r.pattern.kids.map Form.row)),.t (.sc (.int .i64 r.template.kind)),.t (.sc (.str r.template.name)),.t (.sc (.int .i64 r.template.n)),.t (.sl (r.template.scopes.map rI)),.t (.sl (r.template.kids.map Form.row))]] Tryz.func174 rfl Tryz.ntmps174 ?_
 intro C hC
 refine zb (za ?_)
 refine zaN ?_
 refine zU yZ73 ?_
 refine zf (zd (zb (za ?_)))
 refine s_fa zhX ?_
 refine zai yA27 yS27 ?_
 obtain ⟨v1,V1,F1⟩:=zc F0
 refine zv [] (zhM fuel _ _ V1) ?_
 refine s_fa zhX ?_
 refine zii yS27 ?_
 refine zf (zd (zb (za ?_)))
 refine s_fa yF73_1 ?_
 refine zai yA27 yS27 ?_
 obtain ⟨v2,V2,F2⟩:=zc F1
 refine zv [] (zhM fuel _ _ V2) ?_
 refine s_fa yF73_1 ?_
 refine zii yS27 ?_
 refine zf (zd (zb (za ?_)))
 refine zG yA73 yS73 ?_
 refine zab yS73 ?_
 refine zf (zd (zh (zn ?_)))
 cases F2
 exact zZ [] [] (by rw [Tryz.results174];exact (zas (by conv=>lhs;whnf) (by conv=>lhs;whnf) yA73 yS73 rfl zae))
def ziO (fuel:Nat):Prop:=∀ (x1:(List Rule)) (r:(List Rule)),zda fuel x1=some r→AC Tryz.prog 116 [.t (.sl (x1.map Rule.row))] noOb (.t (.sl (r.map Rule.row))) noOb
theorem ziN (fuel:Nat):ziO fuel:=by
 intro x1 r F0
 unfold zda at F0
 refine AC_i [.t (.sl (r.map Rule.row))] Tryz.func116 rfl Tryz.ntmps116 ?_
 intro C hC
 refine zb (za ?_)
 refine s_as ?_
 refine zf (zd (zb (za ?_)))
 refine s_bs Rule.row ([]:List Rule) yP62 yR73 ?_
 refine s_as ?_
 refine zf (zd (zb (zb (za ?_))))
 refine s_mv ?_
 refine zC yU62 ?_
 refine s_mv ?_
 refine zf (zd (zl ?_))
 refine zeI 3 6 5020 (by conv=>lhs;whnf) (by conv=>lhs;whnf) rfl ?_
 refine zak [3,5,9,10,11,12,13,14,15,16,17,18] [5020] [5,16,17] [5020] (fun a:Nat × (List Rule) × Int=>a.1) (fun a:Nat × (List Rule) × Int=>[(3,.ar 5020),(9,.t (.sc (.int .i64 a.2.2)))]) (fun a:Nat × (List Rule) × Int=>[(5020,.arr (a.2.1.map Rule.row) 73 true)]) (fun a:Nat × (List Rule) × Int=>a.1≤fuel∧zaL a.1 x1 a.2.1 a.2.2=some r∧0≤a.2.2) (fuel,([]:List Rule),0) ⟨Nat.le_refl _,F0,by simp⟩ (by rfl) (by rfl) (fun _=>rfl) (zI (by conv=>lhs;whnf) (by rfl) (zI (by conv=>lhs;whnf) (by rfl) zaX)) (zL (by conv=>lhs;whnf) (by rfl) zaK) (zbZ hC rfl) (by repeat (first | exact z6 rfl | refine zal rfl ?_ | refine zQ rfl ?_)) (by repeat (first | exact zay | exact zad rfl | refine zam rfl ?_ | refine zR rfl ?_)) ?_
 clear F0
 rintro ⟨fu,g1,g2⟩ ⟨hl3,F1,hn_g2⟩
 dsimp only at hl3 F1 hn_g2 ⊢
 obtain _ | fu:=fu
 · rw [zaL] at F1;cases F1
 rw [zaL] at F1
 refine zb (za ?_)
 refine s_lt ?_
 refine zf (zd (zb ?_))
 refine zm F1 ?_ ?_<;>intro C4 F2
 refine zM 0 (fun B5=>?_)
 refine zi (zd (zb (zl (zb (za ?_)))))
 obtain ⟨v6,V6,F3⟩:=zc F2
 refine zK Rule.row V6 (Rule.row_eq _) yE62 ?_
 refine zai yA73 yS73 ?_
 refine zU yZ73 ?_
 refine zab yS73 ?_
 refine zf (zd (za ?_))
 refine s_mv ?_
 refine zG yA73 yS73 ?_
 obtain ⟨v7,V7,F4⟩:=zc F3
 refine zv [] (m_spec_l15OwnRule_ok fu _ _ V7) ?_
 refine s_bs Rule.row [v7] yP62 yR73 ?_
 obtain ⟨hk8,F5⟩:=zac F4
 refine zel Rule.row (fun y=>Rule.row_len y) hk8 yP62 ?_
 refine s_as ?_
 refine zf (zW (zd (za ?_)))
 refine zJ (zar C4 B5 hn_g2) ?_
 refine s_mv ?_
 refine zf ?_
 exact s_rn (fu,(g1++[v7]),(g2+1)) ⟨by first | omega | (dsimp only;omega),F5,by first | omega | (dsimp only;omega)⟩ [(5020,17)]
 refine zz (zq (zp (zr (zd (zb (za ?_))))))
 refine s_mv ?_
 refine s_as ?_
 refine zf (zd (zh (zn ?_)))
 cases F2
 exact zk [] [5020] Tryz.results116
def m_spec_ApplyRules_AC (fuel:Nat):Prop:=∀ (x1:(List Bind)) (x2:(List Rule)) (x3:(List Form)) (x4:Form) (r:(Form × Bool)),zeC fuel x1 x2 x3 x4=some r→AC Tryz.prog 57 [.t (.sl (x1.map Bind.row)),.t (.sl (x2.map Rule.row)),.t (.sl (x3.map Form.row)),.ag [.t (.sc (.int .i64 x4.kind)),.t (.sc (.str x4.name)),.t (.sc (.int .i64 x4.n)),.t (.sl (x4.scopes.map rI)),.t (.sl (x4.kids.map Form.row))]] noOb (.tp [.ag [.t (.sc (.int .i64 r.1.kind)),.t (.sc (.str r.1.name)),.t (.sc (.int .i64 r.1.n)),.t (.sl (r.1.scopes.map rI)),.t (.sl (r.1.kids.map Form.row))],.t (.sc (.bool r.2))]) noOb
theorem m_spec_ApplyRules_ok (fuel:Nat):m_spec_ApplyRules_AC fuel:=by
 intro x1 x2 x3 x4 r F0
 unfold zeC at F0
 refine AC_i [.ag [.t (.sc (.int .i64 r.1.kind)),.t (.sc (.str r.1.name)),.t (.sc (.int .i64 r.1.n)),.t (.sl (r.1.scopes.map rI)),.t (.sl (r.1.kids.map Form.row))],.t (.sc (.bool r.2))] Tryz.func57 rfl Tryz.ntmps57 ?_
 intro C hC
 refine zb (za ?_)
 refine zaN ?_
 refine zU yZ27 ?_
 refine s_as ?_
 refine zf (zd (zb (za ?_)))
 refine s_mv ?_
 obtain ⟨v1,V1,F1⟩:=zc F0
 refine zv [] (ziN fuel _ _ V1) ?_
 refine s_as ?_
 refine zf (zd (zb (za ?_)))
 iterate 3 refine s_mv ?_
 refine zG yA27 yS27 ?_
 obtain ⟨v2,V2,F2⟩:=zc F1
 refine zv [] (zh4 fuel _ _ _ _ _ V2) ?_
 refine s_mv ?_
 refine za4 ?_
 refine za4 ?_
 refine s_as ?_
 refine s_as ?_
 refine zf (zd (zb (zb (za ?_))))
 refine s_mv ?_
 refine zaG ?_
 refine zf (zd ?_)
 refine zm F2 ?_ ?_<;>intro C3 F3
 refine zb (za ?_)
 refine zgE yZ27 yL27 ?_
 refine zab yS27 ?_
 refine s_as ?_
 refine zf (zd (zh (zg (zn ?_))))
 cases F3
 exact zZ [] [] (by rw [Tryz.results57];exact (zas (by conv=>lhs;whnf) (by conv=>lhs;whnf) yA27 yS27 rfl (zaj (by conv=>lhs;whnf) zae)))
 refine zi (zd (zb ?_))
 refine zP yMix (by kernel_rfl) ?_
 iterate 3 refine s_mv ?_
 obtain ⟨v4,V4,F4⟩:=zc F3
 refine zK Rule.row V4 (Rule.row_eq _) yE62 ?_
 refine s_fa zhX ?_
 refine zai yA27 yS27 ?_
 refine s_mv ?_
 refine zG yA27 yS27 ?_
 obtain ⟨v5,V5,F5⟩:=zc F4
 refine zv [] (ziL fuel _ _ _ _ _ V5) ?_
 refine s_mv ?_
 refine za4 ?_
 refine za4 ?_
 refine s_as ?_
 refine s_as ?_
 refine zah (by kernel_rfl) ?_
 refine zd (zb (za ?_))
 refine s_mv ?_
 refine s_mv ?_
 obtain ⟨v6,V6,F6⟩:=zc F5
 refine zK Rule.row V6 (Rule.row_eq _) yE62 ?_
 refine s_fa yF73_1 ?_
 refine zai yA27 yS27 ?_
 refine s_mv ?_
 obtain ⟨v7,V7,F7⟩:=zc F6
 refine zv [] (m_spec_l5Fill_ok fuel _ _ _ V7) ?_
 refine s_mv ?_
 refine za4 ?_
 refine za4 ?_
 refine zU yZ27 ?_
 refine zab yS27 ?_
 refine s_as ?_
 refine zf (zd (zb (zb (za ?_))))
 refine s_mv ?_
 refine zaG ?_
 refine s_mv ?_
 refine zo _ 53 F7 ?_ ?_<;>intro C8 F8
 iterate 3 refine r_no rfl ?_
 refine zA ?_
 refine zf (zd (zT rfl (zb (za ?_))))
 refine zgE yZ27 yL27 ?_
 refine zab yS27 ?_
 refine s_as ?_
 refine zf (zd (zh (zg (zn ?_))))
 cases F8
 exact zZ [] [] (by rw [Tryz.results57];exact (zas (by conv=>lhs;whnf) (by conv=>lhs;whnf) yA27 yS27 rfl (zaj (by conv=>lhs;whnf) zae)))
 refine zG yA27 yS27 ?_
 obtain ⟨v9,V9,F9⟩:=zc F8
 refine zv [] (zcf fuel _ _ V9) ?_
 refine zaG ?_
 refine zy ?_
 refine zf (zd ?_)
 refine zm F9 ?_ ?_<;>intro C10 F10
 refine zb (za ?_)
 refine zgE yZ27 yL27 ?_
 refine zab yS27 ?_
 refine s_as ?_
 refine zf (zd (zh (zg (zn ?_))))
 cases F10
 exact zZ [] [] (by rw [Tryz.results57];exact (zas (by conv=>lhs;whnf) (by conv=>lhs;whnf) yA27 yS27 rfl (zaj (by conv=>lhs;whnf) zae)))
 refine zi (zd (zb (za ?_)))
 refine zG yA27 yS27 ?_
 refine zab yS27 ?_
 refine s_as ?_
 refine zf (zd (zh (zn ?_)))
 cases F10
 exact zZ [] [] (by rw [Tryz.results57];exact (zas (by conv=>lhs;whnf) (by conv=>lhs;whnf) yA27 yS27 rfl (zaj (by conv=>lhs;whnf) zae)))
def m_laws_FnApplyRules_AC (fuel:Nat):Prop:=∀ (x1:(List Int)) (r:Bool),zeQ fuel x1=some r→AC Tryz.prog 12 [.t (.sl (x1.map rB))] noOb (.t (.sc (.bool r))) noOb
theorem m_laws_FnApplyRules_ok (fuel:Nat):m_laws_FnApplyRules_AC fuel:=by
 intro x1 r F0
 unfold zeQ at F0
 refine AC_i [.t (.sc (.bool r))] Tryz.func12 rfl Tryz.ntmps12 ?_
 intro C hC
 refine zb (za ?_)
 refine s_as ?_
 refine zf (zd (zb (zb (za ?_))))
 refine s_mv ?_
 refine zC yU22 ?_
 refine s_gt ?_
 refine zf (zd ?_)
 refine zm F0 ?_ ?_<;>intro C1 F1
 refine zM 0 (fun B2=>?_)
 refine zb (za ?_)
 refine s_as ?_
 refine zf (zd (zh (zg (zn ?_))))
 cases F1
 exact zk [] [] Tryz.results12
 refine zi (zd (zb (za ?_)))
 refine s_mv ?_
 obtain ⟨v3,V3,F2⟩:=zc F1
 refine zv [] (ziQ fuel _ _ V3) ?_
 refine s_mv ?_
 iterate 4 refine za4 ?_
 refine zU yZ27 ?_
 iterate 3 refine s_as ?_
 refine zab yS27 ?_
 refine zf (zd (zb (za ?_)))
 iterate 3 refine s_mv ?_
 refine zG yA27 yS27 ?_
 obtain ⟨v4,V4,F3⟩:=zc F2
 refine zv [] (m_impl_ApplyRules_ok fuel _ _ _ _ _ V4) ?_
 refine s_mv ?_
 refine za4 ?_
 refine za4 ?_
 refine zU yZ27 ?_
 refine zab yS27 ?_
 refine s_as ?_
 refine zf (zd (zb (za ?_)))
 iterate 3 refine s_mv ?_
 refine zG yA27 yS27 ?_
 obtain ⟨v5,V5,F4⟩:=zc F3
 refine zv [] (m_spec_ApplyRules_ok fuel _ _ _ _ _ V5) ?_
 refine s_mv ?_
 refine za4 ?_
 refine za4 ?_
 refine zU yZ27 ?_
 refine zab yS27 ?_
 refine s_as ?_
 refine zf (zd (zb (za ?_)))
 iterate 3 refine s_mv ?_
 refine zG yA27 yS27 ?_
 obtain ⟨v6,V6,F5⟩:=zc F4
 refine zv [] (zh9 fuel _ _ _ _ _ V6) ?_
 refine s_mv ?_
 refine za4 ?_
 refine za4 ?_
 refine s_as ?_
 refine s_as ?_
 refine zf (zd (zb (za ?_)))
 iterate 3 refine s_mv ?_
 refine zG yA27 yS27 ?_
 obtain ⟨v7,V7,F6⟩:=zc F5
 refine zv [] (zh4 fuel _ _ _ _ _ V7) ?_
 refine s_mv ?_
 refine za4 ?_
 refine za4 ?_
 refine s_as ?_
 refine s_as ?_
 refine zf (zd (zb ?_))
 refine za2 (α:=Nat × Bool) [61,62,63,64,65,66,67,68,69,70,71,72,73,74,75,76,77,78,79,80,81,82,83] [] [] (fun a=>[(83,.t (.sc (.bool a.2)))]) (fun a=>[]) (fun a=>a.1≤fuel∧zaz a.1 v3 v4 v5 v6 v7 a.2=some r) ?_ ?_
 refine za ?_
 refine zG yA27 yS27 ?_
 refine zG yA27 yS27 ?_
 obtain ⟨v8,V8,F7⟩:=zc F6
 refine zv [] (zbi fuel _ _ _ V8) ?_
 refine zaG ?_
 refine s_mv ?_
 refine zo _ 65 F7 ?_ ?_<;>intro C9 F8
 iterate 3 refine r_no rfl ?_
 refine zA ?_
 refine s_mv ?_
 iterate 3 refine r_no rfl ?_
 refine zA ?_
 refine s_mv ?_
 iterate 3 refine r_no rfl ?_
 refine zA ?_
 refine s_mv ?_
 refine r_no rfl (r_no rfl ?_)
 refine zA ?_
 refine zf ?_
 exact s_jn (fuel,true) ⟨by first | omega | (dsimp only;omega),F8⟩
 refine s_mv ?_
 refine s_mv ?_
 refine s_neB yU4 ?_
 refine zy ?_
 refine s_mv ?_
 refine zo _ 70 F8 ?_ ?_<;>intro C10 F9
 iterate 3 refine r_no rfl ?_
 refine zA ?_
 refine s_mv ?_
 iterate 3 refine r_no rfl ?_
 refine zA ?_
 refine s_mv ?_
 refine r_no rfl (r_no rfl ?_)
 refine zA ?_
 refine zf ?_
 exact s_jn (fuel,true) ⟨by first | omega | (dsimp only;omega),F9⟩
 refine s_mv ?_
 refine s_mv ?_
 refine s_ne ?_
 refine zy ?_
 refine s_mv ?_
 refine zo _ 75 F9 ?_ ?_<;>intro C11 F10
 iterate 3 refine r_no rfl ?_
 refine zA ?_
 refine s_mv ?_
 refine r_no rfl (r_no rfl ?_)
 refine zA ?_
 refine zf ?_
 exact s_jn (fuel,true) ⟨by first | omega | (dsimp only;omega),F10⟩
 refine s_mv ?_
 refine s_mv ?_
 refine s_neB yU4 ?_
 refine zy ?_
 refine s_mv ?_
 refine zo _ 80 F10 ?_ ?_<;>intro C12 F11
 refine r_no rfl (r_no rfl ?_)
 refine zA ?_
 refine zf ?_
 exact s_jn (fuel,true) ⟨by first | omega | (dsimp only;omega),F11⟩
 refine s_mv ?_
 refine zaG ?_
 refine zy ?_
 refine zf ?_
 exact s_jn (fuel,(!v6.2)) ⟨by first | omega | (dsimp only;omega),F11⟩
 clear F6
 rintro ⟨fu,g13⟩ ⟨hl14,F7⟩
 dsimp only at hl14 F7 ⊢
 obtain _ | fu:=fu
 · rw [zaz] at F7;cases F7
 rw [zaz] at F7
 refine zm F7 ?_ ?_<;>intro C15 F8
 refine za2 (α:=Nat × Bool) [2,84,85,86,87,88,89,90,91,92,93,94,95,96,97,98,99,100,101,102,103,104,105] [] [] (fun a=>[(2,.t (.sc (.bool a.2)))]) (fun a=>[]) (fun a=>a.1≤fu∧zaH a.1  a.2=some r) ?_ ?_
 refine za ?_
 refine zG yA27 yS27 ?_
 refine zG yA27 yS27 ?_
 obtain ⟨v16,V16,F9⟩:=zc F8
 refine zv [] (zbi fu _ _ _ V16) ?_
 refine s_mv ?_
 refine zo _ 87 F9 ?_ ?_<;>intro C17 F10
 refine s_mv ?_
 refine s_mv ?_
 refine s_eqB yU4 ?_
 refine zA ?_
 refine s_mv ?_
 refine zo _ 92 F10 ?_ ?_<;>intro C18 F11
 refine s_mv ?_
 refine s_mv ?_
 refine s_eq ?_
 refine zA ?_
 refine s_mv ?_
 refine zo _ 97 F11 ?_ ?_<;>intro C19 F12
 refine s_mv ?_
 refine s_mv ?_
 refine s_eqB yU4 ?_
 refine zA ?_
 refine s_mv ?_
 refine zo _ 102 F12 ?_ ?_<;>intro C20 F13
 refine s_mv ?_
 refine zaG ?_
 refine zA ?_
 refine s_as ?_
 refine zf ?_
 exact s_jn (fu,(!v4.2)) ⟨by first | omega | (dsimp only;omega),F13⟩
 refine r_no rfl (r_no rfl ?_)
 refine zy ?_
 refine s_as ?_
 refine zf ?_
 exact s_jn (fu,false) ⟨by first | omega | (dsimp only;omega),F13⟩
 iterate 3 refine r_no rfl ?_
 refine zy ?_
 refine s_mv ?_
 refine r_no rfl (r_no rfl ?_)
 refine zy ?_
 refine s_as ?_
 refine zf ?_
 exact s_jn (fu,false) ⟨by first | omega | (dsimp only;omega),F12⟩
 iterate 3 refine r_no rfl ?_
 refine zy ?_
 refine s_mv ?_
 iterate 3 refine r_no rfl ?_
 refine zy ?_
 refine s_mv ?_
 refine r_no rfl (r_no rfl ?_)
 refine zy ?_
 refine s_as ?_
 refine zf ?_
 exact s_jn (fu,false) ⟨by first | omega | (dsimp only;omega),F11⟩
 iterate 3 refine r_no rfl ?_
 refine zy ?_
 refine s_mv ?_
 iterate 3 refine r_no rfl ?_
 refine zy ?_
 refine s_mv ?_
 iterate 3 refine r_no rfl ?_
 refine zy ?_
 refine s_mv ?_
 refine r_no rfl (r_no rfl ?_)
 refine zy ?_
 refine s_as ?_
 refine zf ?_
 exact s_jn (fu,false) ⟨by first | omega | (dsimp only;omega),F10⟩
 clear F8
 rintro ⟨fu,g21⟩ ⟨hl22,F9⟩
 dsimp only at hl22 F9 ⊢
 obtain _ | fu:=fu
 · rw [zaH] at F9;cases F9
 rw [zaH] at F9
 refine zh (zg (zn ?_))
 cases F9
 exact zk [] [] Tryz.results12
 refine zi (zd (zb ?_))
 refine zP yMix (by kernel_rfl) ?_
 iterate 3 refine s_mv ?_
 obtain ⟨v23,V23,F9⟩:=zc F8
 refine zK Rule.row V23 (Rule.row_eq _) yE62 ?_
 refine s_fa zhX ?_
 refine zai yA27 yS27 ?_
 refine s_mv ?_
 refine zG yA27 yS27 ?_
 obtain ⟨v24,V24,F10⟩:=zc F9
 refine zv [] (m_impl_MatchPattern_ok fu _ _ _ _ _ V24) ?_
 refine s_mv ?_
 refine za4 ?_
 refine za4 ?_
 refine s_as ?_
 refine s_as ?_
 refine zah (by kernel_rfl) ?_
 refine zd (zb (za ?_))
 refine s_mv ?_
 refine s_mv ?_
 obtain ⟨v25,V25,F11⟩:=zc F10
 refine zK Rule.row V25 (Rule.row_eq _) yE62 ?_
 refine s_fa yF73_1 ?_
 refine zai yA27 yS27 ?_
 refine s_mv ?_
 obtain ⟨v26,V26,F12⟩:=zc F11
 refine zv [] (zhh fu _ _ _ V26) ?_
 refine s_mv ?_
 refine za4 ?_
 refine za4 ?_
 refine zU yZ27 ?_
 refine zab yS27 ?_
 refine s_as ?_
 refine zf (zd (zb (za ?_)))
 refine s_mv ?_
 refine s_mv ?_
 refine zo _ 129 F12 ?_ ?_<;>intro C27 F13
 refine s_mv ?_
 refine s_mv ?_
 refine s_eqB yU4 ?_
 refine zA ?_
 refine s_mv ?_
 refine zo _ 134 F13 ?_ ?_<;>intro C28 F14
 refine s_mv ?_
 refine zaG ?_
 refine s_mv ?_
 refine zo _ 137 F14 ?_ ?_<;>intro C29 F15
 iterate 7 refine r_no rfl ?_
 refine zA ?_
 refine zA ?_
 refine s_as ?_
 refine zf (zd (zh (zn ?_)))
 cases F15
 exact zk [] [] Tryz.results12
 refine zG yA27 yS27 ?_
 refine zG yA27 yS27 ?_
 obtain ⟨v30,V30,F16⟩:=zc F15
 refine zv [] (zbi fu _ _ _ V30) ?_
 refine s_mv ?_
 refine zo _ 141 F16 ?_ ?_<;>intro C31 F17
 refine zG yA27 yS27 ?_
 obtain ⟨v32,V32,F18⟩:=zc F17
 refine zv [] (zbO fu _ _ V32) ?_
 refine zA ?_
 refine zy ?_
 refine zA ?_
 refine s_as ?_
 refine zf (zd (zh (zn ?_)))
 cases F18
 exact zk [] [] Tryz.results12
 refine r_no rfl (r_no rfl ?_)
 refine zy ?_
 refine zy ?_
 refine zA ?_
 refine s_as ?_
 refine zf (zd (zh (zn ?_)))
 cases F17
 exact zk [] [] Tryz.results12
 iterate 11 refine r_no rfl ?_
 refine zy ?_
 refine s_as ?_
 refine zf (zd (zh (zn ?_)))
 cases F14
 exact zk [] [] Tryz.results12
 iterate 3 refine r_no rfl ?_
 refine zy ?_
 refine s_mv ?_
 iterate 11 refine r_no rfl ?_
 refine zy ?_
 refine s_as ?_
 refine zf (zd (zh (zn ?_)))
 cases F13
 exact zk [] [] Tryz.results12
end Go.Abs
