/- A part of the proof: what the functions that the law calls answer, as pure values. -/
import Derived.Test.YtjjjnhpghhamkaaGreatK8d582f2e31e6
import Derived.Test.YtjjjnhpghhamkaaGreatK135f79d6a7aa
import Derived.Test.YtjjjnhpghhamkaaGreatK8faf616840a9
set_option linter.unusedSimpArgs false
set_option linter.unusedVariables false
set_option maxRecDepth 100000
set_option maxHeartbeats 4000000
namespace Go.Abs
open Go.Proofs
def zgB (fuel:Nat):Prop:=∀ (x1:Form) (x2:Int) (o1:Int) (r:(Bool × Int)),zeS fuel x1 x2 o1=some r→AC Tryz.prog 114 [.ag [.t (.sc (.int .i64 x1.kind)),.t (.sc (.str x1.name)),.t (.sc (.int .i64 x1.n)),.t (.sl (x1.scopes.map rI)),.t (.sl (x1.kids.map Form.row))],.t (.sc (.int .i64 x2)),.rf 9000 0] (objs [(9000,.box [.t (.sc (.int .i64 o1))])]) (.t (.sc (.bool r.1))) (objs [(9000,.box [.t (.sc (.int .i64 r.2))])])
theorem m_impl_formOk_st (fu:Nat) (ih_m_impl_formOk:∀ k,k≤fu→zgB k):zgB (fu+1):=by
 intro x1 x2 o1 r F0
 rw [zeS] at F0
 refine AC_i [.t (.sc (.bool r.1))] Tryz.func114 rfl Tryz.ntmps114 ?_
 intro C hC
 refine zb (za ?_)
 refine zaN ?_
 refine s_as ?_
 refine zf (zd (zb (za ?_)))
 refine s_mv ?_
 refine s_nc ?_
 refine zu yA3 ?_
 refine zih rfl ?_
 refine s_nc ?_
 refine zab yS3 ?_
 refine zf (zd (zb (zb (za ?_))))
 refine s_mv ?_
 refine s_nc ?_
 refine zu yA3 ?_
 refine s_lt ?_
 refine s_mv ?_
 refine zo _ 18 F0 ?_ ?_<;>intro C1 F1
 refine r_no rfl (r_no rfl ?_)
 refine zA ?_
 refine zf (zd (zT rfl (zb (za ?_))))
 refine s_as ?_
 refine zf (zd (zh (zg (zn ?_))))
 cases F1
 exact zk _ [] Tryz.results114
 refine s_mv ?_
 refine s_gt ?_
 refine zy ?_
 refine zf (zd ?_)
 refine zm F1 ?_ ?_<;>intro C2 F2
 refine zb (za ?_)
 refine s_as ?_
 refine zf (zd (zh (zg (zn ?_))))
 cases F2
 exact zk _ [] Tryz.results114
 refine zi (zd (zb (zb (za ?_))))
 refine s_fa zc1 ?_
 refine zu yA3 ?_
 refine zf (zd (zl (zb (za ?_))))
 refine s_eq ?_
 refine s_as ?_
 refine zf (zd ?_)
 refine zm F2 ?_ ?_<;>intro C3 F3
 refine zb (za ?_)
 refine s_fa zcp ?_
 refine zu yA9 ?_
 obtain ⟨v4,V4,F4⟩:=zc F3
 refine zv [] (zh8 fu _ _ V4) ?_
 refine s_mv ?_
 refine zo _ 29 F4 ?_ ?_<;>intro C5 F5
 refine s_fa zhu ?_
 refine zu yA3 ?_
 refine s_eq ?_
 refine zA ?_
 refine s_mv ?_
 refine zo _ 34 F5 ?_ ?_<;>intro C6 F6
 refine s_fa zf9 ?_
 refine zu yA24 ?_
 obtain ⟨v7,V7,F7⟩:=zc F6
 refine zv [] (ziq fu _ _ V7) ?_
 refine zA ?_
 refine s_mv ?_
 refine zo _ 39 F7 ?_ ?_<;>intro C8 F8
 refine s_fa zF ?_
 refine zu yA25 ?_
 refine zC yU25 ?_
 refine s_eq ?_
 refine zA ?_
 refine s_as ?_
 refine zf (zd (zh (zj (zg (zn ?_)))))
 cases F8
 exact zk _ [] Tryz.results114
 iterate 4 refine r_no rfl ?_
 refine zy ?_
 refine s_as ?_
 refine zf (zd (zh (zj (zg (zn ?_)))))
 cases F8
 exact zk _ [] Tryz.results114
 iterate 3 refine r_no rfl ?_
 refine zy ?_
 refine s_mv ?_
 iterate 4 refine r_no rfl ?_
 refine zy ?_
 refine s_as ?_
 refine zf (zd (zh (zj (zg (zn ?_)))))
 cases F6
 exact zk _ [] Tryz.results114
 iterate 3 refine r_no rfl ?_
 refine zy ?_
 refine s_mv ?_
 iterate 3 refine r_no rfl ?_
 refine zy ?_
 refine s_mv ?_
 iterate 4 refine r_no rfl ?_
 refine zy ?_
 refine s_as ?_
 refine zf (zd (zh (zj (zg (zn ?_)))))
 cases F5
 exact zk _ [] Tryz.results114
 refine zb (za ?_)
 refine s_eq ?_
 refine s_as ?_
 refine zf (zd ?_)
 refine zm F3 ?_ ?_<;>intro C9 F4
 refine zb (za ?_)
 refine s_fa zcp ?_
 refine zu yA9 ?_
 refine zhv ?_
 refine s_mv ?_
 refine zo _ 50 F4 ?_ ?_<;>intro C10 F5
 refine s_fa zhu ?_
 refine zu yA3 ?_
 obtain ⟨v11,V11,F6⟩:=zc F5
 refine zv [] (zfg fu _ _ _ _ V11) ?_
 refine zA ?_
 refine s_mv ?_
 refine zo _ 55 F6 ?_ ?_<;>intro C12 F7
 refine s_fa zf9 ?_
 refine zu yA24 ?_
 refine zC yU24 ?_
 refine s_eq ?_
 refine zA ?_
 refine s_mv ?_
 refine zo _ 61 F7 ?_ ?_<;>intro C13 F8
 refine s_fa zF ?_
 refine zu yA25 ?_
 refine zC yU25 ?_
 refine s_eq ?_
 refine zA ?_
 refine s_as ?_
 refine zf (zd (zh (zj (zg (zn ?_)))))
 cases F8
 exact zk _ [] Tryz.results114
 iterate 4 refine r_no rfl ?_
 refine zy ?_
 refine s_as ?_
 refine zf (zd (zh (zj (zg (zn ?_)))))
 cases F8
 exact zk _ [] Tryz.results114
 iterate 4 refine r_no rfl ?_
 refine zy ?_
 refine s_mv ?_
 iterate 4 refine r_no rfl ?_
 refine zy ?_
 refine s_as ?_
 refine zf (zd (zh (zj (zg (zn ?_)))))
 cases F7
 exact zk _ [] Tryz.results114
 iterate 3 refine r_no rfl ?_
 refine zy ?_
 refine s_mv ?_
 iterate 4 refine r_no rfl ?_
 refine zy ?_
 refine s_mv ?_
 iterate 4 refine r_no rfl ?_
 refine zy ?_
 refine s_as ?_
 refine zf (zd (zh (zj (zg (zn ?_)))))
 cases F5
 exact zk _ [] Tryz.results114
 refine zb (za ?_)
 refine s_eq ?_
 refine s_as ?_
 refine zf (zd ?_)
 refine zm F4 ?_ ?_<;>intro C14 F5
 refine zb (zb (za ?_))
 refine s_fa zcp ?_
 refine zu yA9 ?_
 refine s_neS ?_
 refine s_mv ?_
 refine zo _ 72 F5 ?_ ?_<;>intro C15 F6
 iterate 3 refine r_no rfl ?_
 refine zA ?_
 refine s_mv ?_
 iterate 4 refine r_no rfl ?_
 refine zA ?_
 refine zf (zd (zT rfl (zb (za ?_))))
 refine s_as ?_
 refine zf (zd (zh (zg (zj (zg (zn ?_))))))
 cases F6
 exact zk _ [] Tryz.results114
 refine s_fa zhu ?_
 refine zu yA3 ?_
 refine s_ne ?_
 refine zy ?_
 refine s_mv ?_
 refine zo _ 77 F6 ?_ ?_<;>intro C16 F7
 iterate 4 refine r_no rfl ?_
 refine zA ?_
 refine zf (zd (zT rfl (zb (za ?_))))
 refine s_as ?_
 refine zf (zd (zh (zg (zj (zg (zn ?_))))))
 cases F7
 exact zk _ [] Tryz.results114
 refine s_fa zf9 ?_
 refine zu yA24 ?_
 refine zC yU24 ?_
 refine s_gt ?_
 refine zy ?_
 refine zf (zd ?_)
 refine zm F7 ?_ ?_<;>intro C17 F8
 refine zM 79 (fun B18=>?_)
 refine zb (za ?_)
 refine s_as ?_
 refine zf (zd (zh (zg (zj (zg (zn ?_))))))
 cases F8
 exact zk _ [] Tryz.results114
 refine zi (zd (zb (zb (za ?_))))
 refine s_fa zF ?_
 refine zu yA25 ?_
 refine zC yU25 ?_
 refine s_mv ?_
 refine zf (zd (zl ?_))
 refine zaP (β:=Int × Int) [6,8,86,87,88,89,90,91,92,93,94,95,96] [9000] [8] (fun a=>[(86,.t (.sc (.int .i64 a.2.1)))]) (fun a=>[(9000,.box [.t (.sc (.int .i64 a.2.2))])]) (fun a=>a.1≤fu∧zcO a.1 x1 x2 a.2.1 a.2.2=some r∧0≤a.2.1) (fu,0,(w64 (o1-1))) ⟨Nat.le_refl _,F8,by simp⟩ ?_
 clear F8
 rintro ⟨fu,g19,g20⟩ ⟨hl21,F9,hn_g19⟩
 dsimp only at hl21 F9 hn_g19 ⊢
 obtain _ | fu:=fu
 · rw [zcO] at F9;cases F9
 rw [zcO] at F9
 refine zb (za ?_)
 refine s_lt ?_
 refine zf (zd (zb ?_))
 refine zm F9 ?_ ?_<;>intro C22 F10
 refine zM 84 (fun B23=>?_)
 refine zi (zd (zb (zl (zb (za ?_)))))
 obtain ⟨v24,V24,F11⟩:=zc F10
 refine zK Form.row V24 (Form.row_eq _) yE25 ?_
 refine zai yA27 yS27 ?_
 refine zU yZ27 ?_
 refine zab yS27 ?_
 refine zf (zd (zb (za ?_)))
 refine zG yA27 yS27 ?_
 refine s_mv ?_
 refine zJ rfl ?_
 refine s_mv ?_
 obtain ⟨v25,V25,F12⟩:=zc F11
 refine z4 [(9000,9000)] [] _ _ (ih_m_impl_formOk fu (by omega) _ _ _ _ V25) ?_
 refine zaG ?_
 refine zf (zd ?_)
 refine zm F12 ?_ ?_<;>intro C26 F13
 refine zb (za ?_)
 refine s_as ?_
 refine zf (zd (zh (zj (zg (zw (zj (zg (zj (zg (zn ?_))))))))))
 cases F13
 exact zk _ [] Tryz.results114
 refine zi (zW (zd (za ?_)))
 refine zJ (zar C22 B23 hn_g19) ?_
 refine s_mv ?_
 refine zf ?_
 exact s_rn (fu,(g19+1),v25.2) ⟨by first | omega | (dsimp only;omega),F13,by first | omega | (dsimp only;omega)⟩
 refine zz (zq (zp (zr (zd (zb (za ?_))))))
 refine s_as ?_
 refine zf (zd (zh (zj (zg (zn ?_)))))
 cases F10
 exact zk _ [] Tryz.results114
 refine zi (zW (zd (zb (za ?_))))
 refine s_as ?_
 refine zf (zd (zh (zn ?_)))
 cases F5
 exact zk _ [] Tryz.results114
theorem m_impl_formOk_all (fuel:Nat):zgB fuel:=by
 induction fuel using Nat.strongRecOn with
 | _ N ih =>
   cases N with
   | zero=>exact (by intro x1 x2 o1 r h;rw [zeS] at h;cases h)
   | succ fu=>exact m_impl_formOk_st fu (fun k hk=>(ih k (by omega)))
theorem m_impl_formOk_ok (fuel:Nat):zgB fuel:=(m_impl_formOk_all fuel)
def m_impl_FormValid_AC (fuel:Nat):Prop:=∀ (x1:Form) (r:Bool),zbb fuel x1=some r→AC Tryz.prog 53 [.ag [.t (.sc (.int .i64 x1.kind)),.t (.sc (.str x1.name)),.t (.sc (.int .i64 x1.n)),.t (.sl (x1.scopes.map rI)),.t (.sl (x1.kids.map Form.row))]] noOb (.t (.sc (.bool r))) noOb
theorem zbO (fuel:Nat):m_impl_FormValid_AC fuel:=by
 intro x1 r F0
 unfold zbb at F0
 refine AC_i [.t (.sc (.bool r))] Tryz.func53 rfl Tryz.ntmps53 ?_
 intro C hC
 refine zb (za ?_)
 refine zaN ?_
 refine s_as ?_
 refine zf (zd (zb (za ?_)))
 refine zU yZ3 ?_
 refine zab yS3 ?_
 refine zf (zd (zb (za ?_)))
 refine zG yA27 yS27 ?_
 obtain ⟨v1,V1,F1⟩:=zc F0
 refine z4 [(9000,3)] [] _ _ (m_impl_formOk_ok fuel _ _ _ _ V1) ?_
 refine s_as ?_
 refine zf (zd (zh (zn ?_)))
 cases F1
 exact zk [] [] Tryz.results53
def m_impl_isName_AC (fuel:Nat):Prop:=∀ (x1:Form) (r:Bool),zdD fuel x1=some r→AC Tryz.prog 139 [.ag [.t (.sc (.int .i64 x1.kind)),.t (.sc (.str x1.name)),.t (.sc (.int .i64 x1.n)),.t (.sl (x1.scopes.map rI)),.t (.sl (x1.kids.map Form.row))]] noOb (.t (.sc (.bool r))) noOb
theorem zfi (fuel:Nat):m_impl_isName_AC fuel:=by
 intro x1 r F0
 unfold zdD at F0
 refine AC_i [.t (.sc (.bool r))] Tryz.func139 rfl Tryz.ntmps139 ?_
 intro C hC
 refine zb (za ?_)
 refine zaN ?_
 refine s_as ?_
 refine zf (zd (zb (za ?_)))
 refine s_fa zc1 ?_
 refine zu yA3 ?_
 refine s_eq ?_
 refine s_mv ?_
 refine zo _ 6 F0 ?_ ?_<;>intro C1 F1
 refine zG yA27 yS27 ?_
 obtain ⟨v2,V2,F2⟩:=zc F1
 refine zv [] (zbO fuel _ _ V2) ?_
 refine zA ?_
 refine s_as ?_
 refine zf (zd (zh (zn ?_)))
 cases F2
 exact zk [] [] Tryz.results139
 refine r_no rfl (r_no rfl ?_)
 refine zy ?_
 refine s_as ?_
 refine zf (zd (zh (zn ?_)))
 cases F1
 exact zk [] [] Tryz.results139
def zei (fuel:Nat):Prop:=∀ (x1:Form) (x2:Form) (r:Bool),zav fuel x1 x2=some r→AC Tryz.prog 20 [.ag [.t (.sc (.int .i64 x1.kind)),.t (.sc (.str x1.name)),.t (.sc (.int .i64 x1.n)),.t (.sl (x1.scopes.map rI)),.t (.sl (x1.kids.map Form.row))],.ag [.t (.sc (.int .i64 x2.kind)),.t (.sc (.str x2.name)),.t (.sc (.int .i64 x2.n)),.t (.sl (x2.scopes.map rI)),.t (.sl (x2.kids.map Form.row))]] noOb (.t (.sc (.bool r))) noOb
def zbn (fuel:Nat):Prop:=∀ (x1:(List Form)) (x2:(List Form)) (r:Bool),za1 fuel x1 x2=some r→AC Tryz.prog 81 [.t (.sl (x1.map Form.row)),.t (.sl (x2.map Form.row)),.fn 20 []] noOb (.t (.sc (.bool r))) noOb
theorem m_impl_FormSame_st (fu:Nat) (ih_m_impl_FormSame:∀ k,k≤fu→zei k) (ih_m_slices_EqualFunc_Form_FormSame:∀ k,k≤fu→zbn k):zei (fu+1):=by
 intro x1 x2 r F0
 rw [zav] at F0
 refine AC_i [.t (.sc (.bool r))] Tryz.func20 rfl Tryz.ntmps20 ?_
 intro C hC
 refine zb (za ?_)
 refine zaN ?_
 refine zaN ?_
 refine s_as ?_
 refine zf (zd (zb (za ?_)))
 refine s_fa zc1 ?_
 refine zu yA3 ?_
 refine s_fa zc1 ?_
 refine zu yA3 ?_
 refine s_eq ?_
 refine s_mv ?_
 refine zo _ 10 F0 ?_ ?_<;>intro C1 F1
 refine s_fa zcp ?_
 refine zu yA9 ?_
 refine s_fa zcp ?_
 refine zu yA9 ?_
 refine zhv ?_
 refine zA ?_
 refine s_mv ?_
 refine zo _ 17 F1 ?_ ?_<;>intro C2 F2
 refine s_fa zhu ?_
 refine zu yA3 ?_
 refine s_fa zhu ?_
 refine zu yA3 ?_
 refine s_eq ?_
 refine zA ?_
 refine s_mv ?_
 refine zo _ 24 F2 ?_ ?_<;>intro C3 F3
 refine s_fa zf9 ?_
 refine zu yA24 ?_
 refine s_fa zf9 ?_
 refine zu yA24 ?_
 obtain ⟨v4,V4,F4⟩:=zc F3
 refine zv [] (zhz fu _ _ _ V4) ?_
 refine zA ?_
 refine s_mv ?_
 refine zo _ 31 F4 ?_ ?_<;>intro C5 F5
 refine s_fa zF ?_
 refine zu yA25 ?_
 refine s_fa zF ?_
 refine zu yA25 ?_
 obtain ⟨v6,V6,F6⟩:=zc F5
 refine zv [] (ih_m_slices_EqualFunc_Form_FormSame fu (by omega) _ _ _ V6) ?_
 refine zA ?_
 refine s_as ?_
 refine zf (zd (zh (zn ?_)))
 cases F6
 exact zk [] [] Tryz.results20
 iterate 5 refine r_no rfl ?_
 refine zy ?_
 refine s_as ?_
 refine zf (zd (zh (zn ?_)))
 cases F5
 exact zk [] [] Tryz.results20
 iterate 5 refine r_no rfl ?_
 refine zy ?_
 refine s_mv ?_
 iterate 5 refine r_no rfl ?_
 refine zy ?_
 refine s_as ?_
 refine zf (zd (zh (zn ?_)))
 cases F3
 exact zk [] [] Tryz.results20
 iterate 5 refine r_no rfl ?_
 refine zy ?_
 refine s_mv ?_
 iterate 5 refine r_no rfl ?_
 refine zy ?_
 refine s_mv ?_
 iterate 5 refine r_no rfl ?_
 refine zy ?_
 refine s_as ?_
 refine zf (zd (zh (zn ?_)))
 cases F2
 exact zk [] [] Tryz.results20
 iterate 5 refine r_no rfl ?_
 refine zy ?_
 refine s_mv ?_
 iterate 5 refine r_no rfl ?_
 refine zy ?_
 refine s_mv ?_
 iterate 5 refine r_no rfl ?_
 refine zy ?_
 refine s_mv ?_
 iterate 5 refine r_no rfl ?_
 refine zy ?_
 refine s_as ?_
 refine zf (zd (zh (zn ?_)))
 cases F1
 exact zk [] [] Tryz.results20
theorem zgI (fu:Nat) (ih_m_impl_FormSame:∀ k,k≤fu→zei k) (ih_m_slices_EqualFunc_Form_FormSame:∀ k,k≤fu→zbn k):zbn (fu+1):=by
 intro x1 x2 r F0
 rw [za1] at F0
 refine AC_i [.t (.sc (.bool r))] Tryz.func81 rfl Tryz.ntmps81 ?_
 intro C hC
 refine zb (za ?_)
 refine s_as ?_
 refine zf (zd (zb (zb (za ?_))))
 refine s_mv ?_
 refine zC yU25 ?_
 refine s_mv ?_
 refine zC yU25 ?_
 refine s_ne ?_
 refine zf (zd ?_)
 refine zm F0 ?_ ?_<;>intro C1 F1
 refine zb (za ?_)
 refine s_as ?_
 refine zf (zd (zh (zg (zn ?_))))
 cases F1
 exact zk [] [] Tryz.results81
 refine zi (zd (zb (zb (za ?_))))
 refine s_mv ?_
 refine zC yU25 ?_
 refine s_mv ?_
 refine zf (zd (zl ?_))
 refine zaP (β:=Int) [6,7,8,9,17,18,19,20,21,22,23,24,25,26,27,28,29,30,31] [] [8,9] (fun a=>[(17,.t (.sc (.int .i64 a.2)))]) (fun a=>[]) (fun a=>a.1≤fu∧zaf a.1 x1 x2 a.2=some r∧0≤a.2) (fu,0) ⟨Nat.le_refl _,F1,by simp⟩ ?_
 clear F1
 rintro ⟨fu,g2⟩ ⟨hl3,F2,hn_g2⟩
 dsimp only at hl3 F2 hn_g2 ⊢
 obtain _ | fu:=fu
 · rw [zaf] at F2;cases F2
 rw [zaf] at F2
 refine zb (za ?_)
 refine s_lt ?_
 refine zf (zd (zb ?_))
 refine zm F2 ?_ ?_<;>intro C4 F3
 refine zM 0 (fun B5=>?_)
 refine zi (zd (zb (zl (zb (za ?_)))))
 refine s_mv ?_
 obtain ⟨v6,V6,F4⟩:=zc F3
 refine zK Form.row V6 (Form.row_eq _) yE25 ?_
 refine zai yA27 yS27 ?_
 refine zU yZ27 ?_
 refine s_as ?_
 refine zab yS27 ?_
 refine zf (zd (zb (za ?_)))
 refine s_mv ?_
 refine s_mv ?_
 obtain ⟨v7,V7,F5⟩:=zc F4
 refine zK Form.row V7 (Form.row_eq _) yE25 ?_
 refine zai yA27 yS27 ?_
 refine zU yZ27 ?_
 refine zab yS27 ?_
 refine zf (zd (zb (za ?_)))
 refine s_mv ?_
 refine zG yA27 yS27 ?_
 refine zG yA27 yS27 ?_
 obtain ⟨v8,V8,F6⟩:=zc F5
 refine zv [] (ih_m_impl_FormSame fu (by omega) _ _ _ V8) ?_
 refine zaG ?_
 refine zf (zd ?_)
 refine zm F6 ?_ ?_<;>intro C9 F7
 refine zb (za ?_)
 refine s_as ?_
 refine zf (zd (zh (zj (zg (zw (zj (zg (zn ?_))))))))
 cases F7
 exact zk [] [] Tryz.results81
 refine zi (zW (zd (za ?_)))
 refine zJ (zar C4 B5 hn_g2) ?_
 refine s_mv ?_
 refine zf ?_
 exact s_rn (fu,(g2+1)) ⟨by first | omega | (dsimp only;omega),F7,by first | omega | (dsimp only;omega)⟩
 refine zz (zq (zp (zr (zd (zb (za ?_))))))
 refine s_as ?_
 refine zf (zd (zh (zn ?_)))
 cases F3
 exact zk [] [] Tryz.results81
theorem m_impl_FormSame_all (fuel:Nat):zei fuel∧zbn fuel:=by
 induction fuel using Nat.strongRecOn with
 | _ N ih =>
   cases N with
   | zero=>exact ⟨(by intro x1 x2 r h;rw [zav] at h;cases h),(by intro x1 x2 r h;rw [za1] at h;cases h)⟩
   | succ fu=>exact ⟨m_impl_FormSame_st fu (fun k hk=>(ih k (by omega)).1) (fun k hk=>(ih k (by omega)).2),zgI fu (fun k hk=>(ih k (by omega)).1) (fun k hk=>(ih k (by omega)).2)⟩
theorem zbi (fuel:Nat):zei fuel:=(m_impl_FormSame_all fuel).1
def m_impl_isIn_1_AC (fuel:Nat):Prop:=∀ (x1:Form) (o1:Form) (r:Bool),zg8 fuel x1 o1=some r→AC Tryz.prog 142 [.ag [.t (.sc (.int .i64 x1.kind)),.t (.sc (.str x1.name)),.t (.sc (.int .i64 x1.n)),.t (.sl (x1.scopes.map rI)),.t (.sl (x1.kids.map Form.row))],.rf 9000 0] (objs [(9000,.box [.t (.sc (.int .i64 o1.kind)),.t (.sc (.str o1.name)),.t (.sc (.int .i64 o1.n)),.t (.sl (o1.scopes.map rI)),.t (.sl (o1.kids.map Form.row))])]) (.t (.sc (.bool r))) (objs [(9000,.box [.t (.sc (.int .i64 o1.kind)),.t (.sc (.str o1.name)),.t (.sc (.int .i64 o1.n)),.t (.sl (o1.scopes.map rI)),.t (.sl (o1.kids.map Form.row))])])
theorem m_impl_isIn_1_ok (fuel:Nat):m_impl_isIn_1_AC fuel:=by
 intro x1 o1 r F0
 unfold zg8 at F0
 refine AC_i [.t (.sc (.bool r))] Tryz.func142 rfl Tryz.ntmps142 ?_
 intro C hC
 refine zb (za ?_)
 refine zaN ?_
 refine s_as ?_
 refine zf (zd (zb (za ?_)))
 refine zG yA27 yS27 ?_
 refine zG yA27 yS27 ?_
 obtain ⟨v1,V1,F1⟩:=zc F0
 refine zv [] (zbi fuel _ _ _ V1) ?_
 refine s_as ?_
 refine zf (zd (zh (zn ?_)))
 cases F1
 exact zk _ [] Tryz.results142
def zg6 (fuel:Nat):Prop:=∀ (x1:(List Form)) (o1:Form) (r:Int),zb1 fuel x1 o1=some r→AC Tryz.prog 178 [.t (.sl (x1.map Form.row)),.fn 142 [.rf 9000 0]] (objs [(9000,.box [.t (.sc (.int .i64 o1.kind)),.t (.sc (.str o1.name)),.t (.sc (.int .i64 o1.n)),.t (.sl (o1.scopes.map rI)),.t (.sl (o1.kids.map Form.row))])]) (.t (.sc (.int .i64 r))) (objs [(9000,.box [.t (.sc (.int .i64 o1.kind)),.t (.sc (.str o1.name)),.t (.sc (.int .i64 o1.n)),.t (.sl (o1.scopes.map rI)),.t (.sl (o1.kids.map Form.row))])])
theorem zg5 (fuel:Nat):zg6 fuel:=by
 intro x1 o1 r F0
 unfold zb1 at F0
 refine AC_i [.t (.sc (.int .i64 r))] Tryz.func178 rfl Tryz.ntmps178 ?_
 intro C hC
 refine zb (za ?_)
 refine s_as ?_
 refine zf (zd (zb (zb (za ?_))))
 refine s_mv ?_
 refine zC yU25 ?_
 refine s_mv ?_
 refine zf (zd (zl ?_))
 refine zaP (β:=Int) [4,5,8,9,10,11,12,13,14,15,16,17,18] [] [] (fun a=>[(8,.t (.sc (.int .i64 a.2)))]) (fun a=>[]) (fun a=>a.1≤fuel∧zap a.1 x1 o1 a.2=some r∧0≤a.2) (fuel,0) ⟨Nat.le_refl _,F0,by simp⟩ ?_
 clear F0
 rintro ⟨fu,g1⟩ ⟨hl2,F1,hn_g1⟩
 dsimp only at hl2 F1 hn_g1 ⊢
 obtain _ | fu:=fu
 · rw [zap] at F1;cases F1
 rw [zap] at F1
 refine zb (za ?_)
 refine s_lt ?_
 refine zf (zd (zb ?_))
 refine zm F1 ?_ ?_<;>intro C3 F2
 refine zM 0 (fun B4=>?_)
 refine zi (zd (zb (zl (zb (za ?_)))))
 refine s_mv ?_
 refine s_as ?_
 refine zf (zd (zb (za ?_)))
 iterate 3 refine s_mv ?_
 obtain ⟨v5,V5,F3⟩:=zc F2
 refine zK Form.row V5 (Form.row_eq _) yE25 ?_
 refine zai yA27 yS27 ?_
 obtain ⟨v6,V6,F4⟩:=zc F3
 refine z4 [(9000,9000)] [] _ _ (m_impl_isIn_1_ok fu _ _ _ V6) ?_
 refine zf (zd ?_)
 refine zm F4 ?_ ?_<;>intro C7 F5
 refine zb (za ?_)
 refine s_mv ?_
 refine s_as ?_
 refine zf (zd (zh (zj (zg (zw (zj (zg (zn ?_))))))))
 cases F5
 exact zk _ [] Tryz.results178
 refine zi (zW (zd (za ?_)))
 refine zJ (zar C3 B4 hn_g1) ?_
 refine s_mv ?_
 refine zf ?_
 exact s_rn (fu,(g1+1)) ⟨by first | omega | (dsimp only;omega),F5,by first | omega | (dsimp only;omega)⟩
 refine zz (zq (zp (zr (zd (zb (za ?_))))))
 refine s_as ?_
 refine zf (zd (zh (zn ?_)))
 cases F2
 exact zk _ [] Tryz.results178
def zgl (fuel:Nat):Prop:=∀ (x1:(List Form)) (o1:Form) (r:Bool),zbH fuel x1 o1=some r→AC Tryz.prog 141 [.t (.sl (x1.map Form.row)),.fn 142 [.rf 9000 0]] (objs [(9000,.box [.t (.sc (.int .i64 o1.kind)),.t (.sc (.str o1.name)),.t (.sc (.int .i64 o1.n)),.t (.sl (o1.scopes.map rI)),.t (.sl (o1.kids.map Form.row))])]) (.t (.sc (.bool r))) (objs [(9000,.box [.t (.sc (.int .i64 o1.kind)),.t (.sc (.str o1.name)),.t (.sc (.int .i64 o1.n)),.t (.sl (o1.scopes.map rI)),.t (.sl (o1.kids.map Form.row))])])
theorem zgk (fuel:Nat):zgl fuel:=by
 intro x1 o1 r F0
 unfold zbH at F0
 refine AC_i [.t (.sc (.bool r))] Tryz.func141 rfl Tryz.ntmps141 ?_
 intro C hC
 refine zb (za ?_)
 refine s_as ?_
 refine zf (zd (zb (za ?_)))
 refine s_mv ?_
 refine s_mv ?_
 obtain ⟨v1,V1,F1⟩:=zc F0
 refine z4 [(9000,9000)] [] _ _ (zg5 fuel _ _ _ V1) ?_
 refine s_ge ?_
 refine s_as ?_
 refine zf (zd (zh (zn ?_)))
 cases F1
 exact zk _ [] Tryz.results141
def m_impl_isIn_AC (fuel:Nat):Prop:=∀ (x1:(List Form)) (x2:Form) (r:Bool),zfS fuel x1 x2=some r→AC Tryz.prog 71 [.t (.sl (x1.map Form.row)),.ag [.t (.sc (.int .i64 x2.kind)),.t (.sc (.str x2.name)),.t (.sc (.int .i64 x2.n)),.t (.sl (x2.scopes.map rI)),.t (.sl (x2.kids.map Form.row))]] noOb (.t (.sc (.bool r))) noOb
theorem zhr (fuel:Nat):m_impl_isIn_AC fuel:=by
 intro x1 x2 r F0
 unfold zfS at F0
 refine AC_i [.t (.sc (.bool r))] Tryz.func71 rfl Tryz.ntmps71 ?_
 intro C hC
 refine zb (za ?_)
 refine zaN ?_
 refine s_as ?_
 refine zf (zd (zb (za ?_)))
 refine s_mv ?_
 refine s_fn ?_
 obtain ⟨v1,V1,F1⟩:=zc F0
 refine z4 [(9000,3)] [] _ _ (zgk fuel _ _ _ V1) ?_
 refine s_as ?_
 refine zf (zd (zh (zn ?_)))
 cases F1
 exact zk [] [] Tryz.results71
def m_impl_literalsOk_AC (fuel:Nat):Prop:=∀ (x1:(List Form)) (r:Bool),zdR fuel x1=some r→AC Tryz.prog 67 [.t (.sl (x1.map Form.row))] noOb (.t (.sc (.bool r))) noOb
theorem zhP (fuel:Nat):m_impl_literalsOk_AC fuel:=by
 intro x1 r F0
 unfold zdR at F0
 refine AC_i [.t (.sc (.bool r))] Tryz.func67 rfl Tryz.ntmps67 ?_
 intro C hC
 refine zb (za ?_)
 refine s_as ?_
 refine zf (zd (zb (zb (za ?_))))
 refine s_mv ?_
 refine zC yU25 ?_
 refine s_mv ?_
 refine zf (zd (zl ?_))
 refine zaP (β:=Int) [2,3,4,7,8,9,10,11,12,13,14,15,16,17,18,19,20,21,22,23,24,25,26,27,28,29,30,31,32] [] [4] (fun a=>[(7,.t (.sc (.int .i64 a.2)))]) (fun a=>[]) (fun a=>a.1≤fuel∧zbA a.1 x1 a.2=some r∧0≤a.2) (fuel,0) ⟨Nat.le_refl _,F0,by simp⟩ ?_
 clear F0
 rintro ⟨fu,g1⟩ ⟨hl2,F1,hn_g1⟩
 dsimp only at hl2 F1 hn_g1 ⊢
 obtain _ | fu:=fu
 · rw [zbA] at F1;cases F1
 rw [zbA] at F1
 refine zb (za ?_)
 refine s_lt ?_
 refine zf (zd (zb ?_))
 refine zm F1 ?_ ?_<;>intro C3 F2
 refine zM 0 (fun B4=>?_)
 refine zi (zd (zb (zl (zb (za ?_)))))
 refine s_mv ?_
 obtain ⟨v5,V5,F3⟩:=zc F2
 refine zK Form.row V5 (Form.row_eq _) yE25 ?_
 refine zai yA27 yS27 ?_
 refine zU yZ27 ?_
 refine s_as ?_
 refine zab yS27 ?_
 refine zf (zd (zb ?_))
 refine zP yMix (by kernel_rfl) ?_
 refine zG yA27 yS27 ?_
 obtain ⟨v6,V6,F4⟩:=zc F3
 refine zv [] (zfi fu _ _ V6) ?_
 refine zaG ?_
 refine s_mv ?_
 refine zo _ 15 F4 ?_ ?_<;>intro C7 F5
 iterate 3 refine r_no rfl ?_
 refine zA ?_
 refine s_mv ?_
 iterate 3 refine r_no rfl ?_
 refine zA ?_
 refine s_mv ?_
 iterate 5 refine r_no rfl ?_
 refine zA ?_
 refine zah (by kernel_rfl) ?_
 refine zd (zT rfl (zb (za ?_)))
 refine s_as ?_
 refine zf (zd (zh (zj (zg (zw (zj (zg (zn ?_))))))))
 cases F5
 exact zk [] [] Tryz.results67
 refine s_fa zcp ?_
 refine zu yA9 ?_
 refine zhv ?_
 refine zy ?_
 refine s_mv ?_
 refine zo _ 20 F5 ?_ ?_<;>intro C8 F6
 iterate 3 refine r_no rfl ?_
 refine zA ?_
 refine s_mv ?_
 iterate 5 refine r_no rfl ?_
 refine zA ?_
 refine zah (by kernel_rfl) ?_
 refine zd (zT rfl (zb (za ?_)))
 refine s_as ?_
 refine zf (zd (zh (zj (zg (zw (zj (zg (zn ?_))))))))
 cases F6
 exact zk [] [] Tryz.results67
 refine s_fa zcp ?_
 refine zu yA9 ?_
 refine zhv ?_
 refine zy ?_
 refine s_mv ?_
 refine zo _ 25 F6 ?_ ?_<;>intro C9 F7
 iterate 5 refine r_no rfl ?_
 refine zA ?_
 refine zah (by kernel_rfl) ?_
 refine zd (zT rfl (zb (za ?_)))
 refine s_as ?_
 refine zf (zd (zh (zj (zg (zw (zj (zg (zn ?_))))))))
 cases F7
 exact zk [] [] Tryz.results67
 refine s_mv ?_
 refine s_mv ?_
 obtain ⟨v10,V10,F8⟩:=zc F7
 refine s_sl01 Form.row (fun y=>Form.row_len y) V10 yU25 yE25 ?_
 refine zG yA27 yS27 ?_
 obtain ⟨v11,V11,F9⟩:=zc F8
 refine zv [] (zhr fu _ _ _ V11) ?_
 refine zy ?_
 refine zah (by kernel_rfl) ?_
 refine zd ?_
 refine zm F9 ?_ ?_<;>intro C12 F10
 refine zb (za ?_)
 refine s_as ?_
 refine zf (zd (zh (zj (zg (zw (zj (zg (zn ?_))))))))
 cases F10
 exact zk [] [] Tryz.results67
 refine zi (zW (zd (za ?_)))
 refine zJ (zar C3 B4 hn_g1) ?_
 refine s_mv ?_
 refine zf ?_
 exact s_rn (fu,(g1+1)) ⟨by first | omega | (dsimp only;omega),F10,by first | omega | (dsimp only;omega)⟩
 refine zz (zq (zp (zr (zd (zb (za ?_))))))
 refine s_mv ?_
 refine zC yU25 ?_
 refine s_le ?_
 refine s_as ?_
 refine zf (zd (zh (zn ?_)))
 cases F2
 exact zk [] [] Tryz.results67
def m_impl_named_AC (fuel:Nat):Prop:=∀ (x1:Form) (x2:ByteArray) (r:Bool),zb2 fuel x1 x2=some r→AC Tryz.prog 68 [.ag [.t (.sc (.int .i64 x1.kind)),.t (.sc (.str x1.name)),.t (.sc (.int .i64 x1.n)),.t (.sl (x1.scopes.map rI)),.t (.sl (x1.kids.map Form.row))],.t (.sc (.str x2))] noOb (.t (.sc (.bool r))) noOb
theorem zbM (fuel:Nat):m_impl_named_AC fuel:=by
 intro x1 x2 r F0
 unfold zb2 at F0
 refine AC_i [.t (.sc (.bool r))] Tryz.func68 rfl Tryz.ntmps68 ?_
 intro C hC
 refine zb (za ?_)
 refine zaN ?_
 refine s_as ?_
 refine zf (zd (zb (za ?_)))
 refine s_fa zc1 ?_
 refine zu yA3 ?_
 refine s_eq ?_
 refine s_mv ?_
 refine zo _ 8 F0 ?_ ?_<;>intro C1 F1
 refine s_fa zcp ?_
 refine zu yA9 ?_
 refine s_mv ?_
 refine zhv ?_
 refine zA ?_
 refine s_as ?_
 refine zf (zd (zh (zn ?_)))
 cases F1
 exact zk [] [] Tryz.results68
 iterate 4 refine r_no rfl ?_
 refine zy ?_
 refine s_as ?_
 refine zf (zd (zh (zn ?_)))
 cases F1
 exact zk [] [] Tryz.results68
def m_impl_dotsAt_1_AC (fuel:Nat):Prop:=∀ (x1:Form) (r:Bool),zdX fuel x1=some r→AC Tryz.prog 179 [.ag [.t (.sc (.int .i64 x1.kind)),.t (.sc (.str x1.name)),.t (.sc (.int .i64 x1.n)),.t (.sl (x1.scopes.map rI)),.t (.sl (x1.kids.map Form.row))]] noOb (.t (.sc (.bool r))) noOb
theorem m_impl_dotsAt_1_ok (fuel:Nat):m_impl_dotsAt_1_AC fuel:=by
 intro x1 r F0
 unfold zdX at F0
 refine AC_i [.t (.sc (.bool r))] Tryz.func179 rfl Tryz.ntmps179 ?_
 intro C hC
 refine zb (za ?_)
 refine zaN ?_
 refine s_as ?_
 refine zf (zd (zb (za ?_)))
 refine zG yA27 yS27 ?_
 obtain ⟨v1,V1,F1⟩:=zc F0
 refine zv [] (zbM fuel _ _ _ V1) ?_
 refine s_as ?_
 refine zf (zd (zh (zn ?_)))
 cases F1
 exact zk [] [] Tryz.results179
def zgH (fuel:Nat):Prop:=∀ (x1:(List Form)) (r:Int),za0 fuel x1=some r→AC Tryz.prog 178 [.t (.sl (x1.map Form.row)),.fn 179 []] noOb (.t (.sc (.int .i64 r))) noOb
theorem zgG (fuel:Nat):zgH fuel:=by
 intro x1 r F0
 unfold za0 at F0
 refine AC_i [.t (.sc (.int .i64 r))] Tryz.func178 rfl Tryz.ntmps178 ?_
 intro C hC
 refine zb (za ?_)
 refine s_as ?_
 refine zf (zd (zb (zb (za ?_))))
 refine s_mv ?_
 refine zC yU25 ?_
 refine s_mv ?_
 refine zf (zd (zl ?_))
 refine zaP (β:=Int) [4,5,8,9,10,11,12,13,14,15,16,17,18] [] [] (fun a=>[(8,.t (.sc (.int .i64 a.2)))]) (fun a=>[]) (fun a=>a.1≤fuel∧zO a.1 x1 a.2=some r∧0≤a.2) (fuel,0) ⟨Nat.le_refl _,F0,by simp⟩ ?_
 clear F0
 rintro ⟨fu,g1⟩ ⟨hl2,F1,hn_g1⟩
 dsimp only at hl2 F1 hn_g1 ⊢
 obtain _ | fu:=fu
 · rw [zO] at F1;cases F1
 rw [zO] at F1
 refine zb (za ?_)
 refine s_lt ?_
 refine zf (zd (zb ?_))
 refine zm F1 ?_ ?_<;>intro C3 F2
 refine zM 0 (fun B4=>?_)
 refine zi (zd (zb (zl (zb (za ?_)))))
 refine s_mv ?_
 refine s_as ?_
 refine zf (zd (zb (za ?_)))
 iterate 3 refine s_mv ?_
 obtain ⟨v5,V5,F3⟩:=zc F2
 refine zK Form.row V5 (Form.row_eq _) yE25 ?_
 refine zai yA27 yS27 ?_
 obtain ⟨v6,V6,F4⟩:=zc F3
 refine zv [] (m_impl_dotsAt_1_ok fu _ _ V6) ?_
 refine zf (zd ?_)
 refine zm F4 ?_ ?_<;>intro C7 F5
 refine zb (za ?_)
 refine s_mv ?_
 refine s_as ?_
 refine zf (zd (zh (zj (zg (zw (zj (zg (zn ?_))))))))
 cases F5
 exact zk [] [] Tryz.results178
 refine zi (zW (zd (za ?_)))
 refine zJ (zar C3 B4 hn_g1) ?_
 refine s_mv ?_
 refine zf ?_
 exact s_rn (fu,(g1+1)) ⟨by first | omega | (dsimp only;omega),F5,by first | omega | (dsimp only;omega)⟩
 refine zz (zq (zp (zr (zd (zb (za ?_))))))
 refine s_as ?_
 refine zf (zd (zh (zn ?_)))
 cases F2
 exact zk [] [] Tryz.results178
def m_impl_dotsAt_AC (fuel:Nat):Prop:=∀ (x1:(List Form)) (r:Int),zeT fuel x1=some r→AC Tryz.prog 124 [.t (.sl (x1.map Form.row))] noOb (.t (.sc (.int .i64 r))) noOb
theorem m_impl_dotsAt_ok (fuel:Nat):m_impl_dotsAt_AC fuel:=by
 intro x1 r F0
 unfold zeT at F0
 refine AC_i [.t (.sc (.int .i64 r))] Tryz.func124 rfl Tryz.ntmps124 ?_
 intro C hC
 refine zb (za ?_)
 refine s_as ?_
 refine zf (zd (zb (za ?_)))
 refine s_mv ?_
 obtain ⟨v1,V1,F1⟩:=zc F0
 refine zv [] (zgG fuel _ _ V1) ?_
 refine s_as ?_
 refine zf (zd (zh (zn ?_)))
 cases F1
 exact zk [] [] Tryz.results124
def zgD (fuel:Nat):Prop:=∀ (x1:Form) (x2:Bool) (r:Bool),zdE fuel x1 x2=some r→AC Tryz.prog 69 [.ag [.t (.sc (.int .i64 x1.kind)),.t (.sc (.str x1.name)),.t (.sc (.int .i64 x1.n)),.t (.sl (x1.scopes.map rI)),.t (.sl (x1.kids.map Form.row))],.t (.sc (.bool x2))] noOb (.t (.sc (.bool r))) noOb
theorem m_impl_dotsOk_st (fu:Nat) (ih_m_impl_dotsOk:∀ k,k≤fu→zgD k):zgD (fu+1):=by
 intro x1 x2 r F0
 rw [zdE] at F0
 refine AC_i [.t (.sc (.bool r))] Tryz.func69 rfl Tryz.ntmps69 ?_
 intro C hC
 refine zb (za ?_)
 refine zaN ?_
 refine s_as ?_
 refine zf (zd (zb (zb (za ?_))))
 refine s_fa zF ?_
 refine zu yA25 ?_
 refine zC yU25 ?_
 refine s_mv ?_
 refine zf (zd (zl ?_))
 refine zaP (β:=Int) [4,5,6,10,11,12,13,14,15,16,17,18,19,20,21,22,23,24,25,26,27,28,29,30,31,32,33,34,35,36,37,38,39,40,41,42,43] [] [6] (fun a=>[(10,.t (.sc (.int .i64 a.2)))]) (fun a=>[]) (fun a=>a.1≤fu∧zbT a.1 x1 x2 a.2=some r∧0≤a.2) (fu,0) ⟨Nat.le_refl _,F0,by simp⟩ ?_
 clear F0
 rintro ⟨fu,g1⟩ ⟨hl2,F1,hn_g1⟩
 dsimp only at hl2 F1 hn_g1 ⊢
 obtain _ | fu:=fu
 · rw [zbT] at F1;cases F1
 rw [zbT] at F1
 refine zb (za ?_)
 refine s_lt ?_
 refine zf (zd (zb ?_))
 refine zm F1 ?_ ?_<;>intro C3 F2
 refine zM 8 (fun B4=>?_)
 refine zi (zd (zb (zl (zb (za ?_)))))
 refine s_mv ?_
 obtain ⟨v5,V5,F3⟩:=zc F2
 refine zK Form.row V5 (Form.row_eq _) yE25 ?_
 refine zai yA27 yS27 ?_
 refine zU yZ27 ?_
 refine s_as ?_
 refine zab yS27 ?_
 refine zf (zd (zb (za ?_)))
 refine zG yA27 yS27 ?_
 obtain ⟨v6,V6,F4⟩:=zc F3
 refine zv [] (zbM fu _ _ _ V6) ?_
 refine zf (zd ?_)
 refine zm F4 ?_ ?_<;>intro C7 F5
 refine zb (za ?_)
 refine s_mv ?_
 refine s_eq ?_
 refine s_mv ?_
 refine zo _ 19 F5 ?_ ?_<;>intro C8 F6
 iterate 7 refine r_no rfl ?_
 refine zA ?_
 refine s_mv ?_
 iterate 9 refine r_no rfl ?_
 refine zA ?_
 refine zf (zd (zT rfl (zb (za ?_))))
 refine s_as ?_
 refine zf (zd (zh (zj (zg (zw (zj (zg (zn ?_))))))))
 cases F6
 exact zk [] [] Tryz.results69
 refine s_fa zF ?_
 refine zu yA25 ?_
 refine s_mv ?_
 refine zih rfl ?_
 obtain ⟨v9,V9,F7⟩:=zc F6
 refine zK Form.row V9 (Form.row_eq _) yE25 ?_
 refine zai yA27 yS27 ?_
 obtain ⟨v10,V10,F8⟩:=zc F7
 refine zv [] (zbM fu _ _ _ V10) ?_
 refine zy ?_
 refine s_mv ?_
 refine zo _ 28 F8 ?_ ?_<;>intro C11 F9
 iterate 9 refine r_no rfl ?_
 refine zA ?_
 refine zf (zd (zT rfl (zb (za ?_))))
 refine s_as ?_
 refine zf (zd (zh (zj (zg (zw (zj (zg (zn ?_))))))))
 cases F9
 exact zk [] [] Tryz.results69
 refine s_mv ?_
 refine s_mv ?_
 refine zo _ 30 F9 ?_ ?_<;>intro C12 F10
 refine s_fa zF ?_
 refine zu yA25 ?_
 refine s_mv ?_
 obtain ⟨v13,V13,F11⟩:=zc F10
 refine s_sl01 Form.row (fun y=>Form.row_len y) V13 yU25 yE25 ?_
 obtain ⟨v14,V14,F12⟩:=zc F11
 refine zv [] (m_impl_dotsAt_ok fu _ _ V14) ?_
 refine s_ge ?_
 refine zA ?_
 refine zy ?_
 refine zf (zd ?_)
 refine zm F12 ?_ ?_<;>intro C15 F13
 refine zb (za ?_)
 refine s_as ?_
 refine zf (zd (zh (zj (zg (zw (zj (zg (zn ?_))))))))
 cases F13
 exact zk [] [] Tryz.results69
 refine zi (zW (zd (za ?_)))
 refine zJ (zar C3 B4 hn_g1) ?_
 refine s_mv ?_
 refine zf ?_
 exact s_rn (fu,(g1+1)) ⟨by first | omega | (dsimp only;omega),F13,by first | omega | (dsimp only;omega)⟩
 iterate 6 refine r_no rfl ?_
 refine zy ?_
 refine zy ?_
 refine zf (zd (zaZ rfl (zi (zW (zd (za ?_))))))
 refine zJ (zar C3 B4 hn_g1) ?_
 refine s_mv ?_
 refine zf ?_
 exact s_rn (fu,(g1+1)) ⟨by first | omega | (dsimp only;omega),F10,by first | omega | (dsimp only;omega)⟩
 refine zb (za ?_)
 refine zG yA27 yS27 ?_
 refine s_mv ?_
 obtain ⟨v16,V16,F6⟩:=zc F5
 refine zv [] (ih_m_impl_dotsOk fu (by omega) _ _ _ V16) ?_
 refine zaG ?_
 refine zf (zd ?_)
 refine zm F6 ?_ ?_<;>intro C17 F7
 refine zb (za ?_)
 refine s_as ?_
 refine zf (zd (zh (zj (zg (zw (zj (zg (zn ?_))))))))
 cases F7
 exact zk [] [] Tryz.results69
 refine zi (zW (zd (za ?_)))
 refine zJ (zar C3 B4 hn_g1) ?_
 refine s_mv ?_
 refine zf ?_
 exact s_rn (fu,(g1+1)) ⟨by first | omega | (dsimp only;omega),F7,by first | omega | (dsimp only;omega)⟩
 refine zz (zq (zp (zr (zd (zb (za ?_))))))
 refine s_as ?_
 refine zf (zd (zh (zn ?_)))
 cases F2
 exact zk [] [] Tryz.results69
theorem m_impl_dotsOk_all (fuel:Nat):zgD fuel:=by
 induction fuel using Nat.strongRecOn with
 | _ N ih =>
   cases N with
   | zero=>exact (by intro x1 x2 r h;rw [zdE] at h;cases h)
   | succ fu=>exact m_impl_dotsOk_st fu (fun k hk=>(ih k (by omega)))
theorem m_impl_dotsOk_ok (fuel:Nat):zgD fuel:=(m_impl_dotsOk_all fuel)
def m_impl_isVar_AC (fuel:Nat):Prop:=∀ (x1:Form) (x2:(List Form)) (r:Bool),zhA fuel x1 x2=some r→AC Tryz.prog 160 [.ag [.t (.sc (.int .i64 x1.kind)),.t (.sc (.str x1.name)),.t (.sc (.int .i64 x1.n)),.t (.sl (x1.scopes.map rI)),.t (.sl (x1.kids.map Form.row))],.t (.sl (x2.map Form.row))] noOb (.t (.sc (.bool r))) noOb
theorem m_impl_isVar_ok (fuel:Nat):m_impl_isVar_AC fuel:=by
 intro x1 x2 r F0
 unfold zhA at F0
 refine AC_i [.t (.sc (.bool r))] Tryz.func160 rfl Tryz.ntmps160 ?_
 intro C hC
 refine zb (za ?_)
 refine zaN ?_
 refine s_as ?_
 refine zf (zd (zb (za ?_)))
 refine s_fa zc1 ?_
 refine zu yA3 ?_
 refine s_eq ?_
 refine s_mv ?_
 refine zo _ 8 F0 ?_ ?_<;>intro C1 F1
 refine s_fa zcp ?_
 refine zu yA9 ?_
 refine s_neS ?_
 refine zA ?_
 refine s_mv ?_
 refine zo _ 13 F1 ?_ ?_<;>intro C2 F2
 refine s_fa zcp ?_
 refine zu yA9 ?_
 refine s_neS ?_
 refine zA ?_
 refine s_mv ?_
 refine zo _ 18 F2 ?_ ?_<;>intro C3 F3
 refine s_mv ?_
 refine zG yA27 yS27 ?_
 obtain ⟨v4,V4,F4⟩:=zc F3
 refine zv [] (zhr fuel _ _ _ V4) ?_
 refine zaG ?_
 refine zA ?_
 refine s_as ?_
 refine zf (zd (zh (zn ?_)))
 cases F4
 exact zk [] [] Tryz.results160
 iterate 4 refine r_no rfl ?_
 refine zy ?_
 refine s_as ?_
 refine zf (zd (zh (zn ?_)))
 cases F3
 exact zk [] [] Tryz.results160
 iterate 3 refine r_no rfl ?_
 refine zy ?_
 refine s_mv ?_
 iterate 4 refine r_no rfl ?_
 refine zy ?_
 refine s_as ?_
 refine zf (zd (zh (zn ?_)))
 cases F2
 exact zk [] [] Tryz.results160
 iterate 3 refine r_no rfl ?_
 refine zy ?_
 refine s_mv ?_
 iterate 3 refine r_no rfl ?_
 refine zy ?_
 refine s_mv ?_
 iterate 4 refine r_no rfl ?_
 refine zy ?_
 refine s_as ?_
 refine zf (zd (zh (zn ?_)))
 cases F1
 exact zk [] [] Tryz.results160
end Go.Abs
