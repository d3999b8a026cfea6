/- A part of the proof: what the functions that the law calls answer, as pure values. -/
import Derived.Test.YtilpcjgklfjdgaaGreatKbeececb3b691
import Derived.Test.YtilpcjgklfjdgaaGreatKe5b598c0b17e
import Derived.Test.YtilpcjgklfjdgaaGreatKdfd114e1f3bb
set_option linter.unusedSimpArgs false
set_option linter.unusedVariables false
set_option maxRecDepth 100000
set_option maxHeartbeats 4000000
namespace Go.Abs
open Go.Proofs
def zgz (fuel:Nat):Prop:=∀ (x1:Form) (x2:Int) (o1:Int) (r:(Bool × Int)),zeO fuel x1 x2 o1=some r→AC Tryz.prog 115 [.ag [.t (.sc (.int .i64 x1.kind)),.t (.sc (.str x1.name)),.t (.sc (.int .i64 x1.n)),.t (.sl (x1.scopes.map rI)),.t (.sl (x1.kids.map Form.row))],.t (.sc (.int .i64 x2)),.rf 9000 0] (objs [(9000,.box [.t (.sc (.int .i64 o1))])]) (.t (.sc (.bool r.1))) (objs [(9000,.box [.t (.sc (.int .i64 r.2))])])
theorem m_impl_formOk_st (fu:Nat) (ih_m_impl_formOk:∀ k,k≤fu→zgz k):zgz (fu+1):=by
 intro x1 x2 o1 r F0
 rw [zeO] at F0
 refine AC_i [.t (.sc (.bool r.1))] Tryz.func115 rfl Tryz.ntmps115 ?_
 intro C hC
 refine zb (za ?_)
 refine zaL ?_
 refine s_as ?_
 refine zf (zd (zb (za ?_)))
 refine s_mv ?_
 refine s_nc ?_
 refine zu yA3 ?_
 refine zh9 rfl ?_
 refine s_nc ?_
 refine zac yS3 ?_
 refine zf (zd (zb (zb (za ?_))))
 refine s_mv ?_
 refine s_nc ?_
 refine zu yA3 ?_
 refine s_lt ?_
 refine s_mv ?_
 refine zp _ 18 F0 ?_ ?_<;>intro C1 F1
 refine r_no rfl (r_no rfl ?_)
 refine zA ?_
 refine zf (zd (zT rfl (zb (za ?_))))
 refine s_as ?_
 refine zf (zd (zh (zg (zn ?_))))
 cases F1
 exact zk _ [] Tryz.results115
 refine s_mv ?_
 refine s_gt ?_
 refine zz ?_
 refine zf (zd ?_)
 refine zm F1 ?_ ?_<;>intro C2 F2
 refine zb (za ?_)
 refine s_as ?_
 refine zf (zd (zh (zg (zn ?_))))
 cases F2
 exact zk _ [] Tryz.results115
 refine zi (zd (zb (zb (za ?_))))
 refine s_fa zcY ?_
 refine zu yA3 ?_
 refine zf (zd (zl (zb (za ?_))))
 refine s_eq ?_
 refine s_as ?_
 refine zf (zd ?_)
 refine zm F2 ?_ ?_<;>intro C3 F3
 refine zb (za ?_)
 refine s_fa zcm ?_
 refine zu yA9 ?_
 obtain ⟨v4,V4,F4⟩:=zc F3
 refine zv [] (zh2 fu _ _ V4) ?_
 refine s_mv ?_
 refine zp _ 29 F4 ?_ ?_<;>intro C5 F5
 refine s_fa zhq ?_
 refine zu yA3 ?_
 refine s_eq ?_
 refine zA ?_
 refine s_mv ?_
 refine zp _ 34 F5 ?_ ?_<;>intro C6 F6
 refine s_fa zf3 ?_
 refine zu yA27 ?_
 obtain ⟨v7,V7,F7⟩:=zc F6
 refine zv [] (zik fu _ _ V7) ?_
 refine zA ?_
 refine s_mv ?_
 refine zp _ 39 F7 ?_ ?_<;>intro C8 F8
 refine s_fa zF ?_
 refine zu yA24 ?_
 refine zC yU24 ?_
 refine s_eq ?_
 refine zA ?_
 refine s_as ?_
 refine zf (zd (zh (zj (zg (zn ?_)))))
 cases F8
 exact zk _ [] Tryz.results115
 iterate 4 refine r_no rfl ?_
 refine zz ?_
 refine s_as ?_
 refine zf (zd (zh (zj (zg (zn ?_)))))
 cases F8
 exact zk _ [] Tryz.results115
 iterate 3 refine r_no rfl ?_
 refine zz ?_
 refine s_mv ?_
 iterate 4 refine r_no rfl ?_
 refine zz ?_
 refine s_as ?_
 refine zf (zd (zh (zj (zg (zn ?_)))))
 cases F6
 exact zk _ [] Tryz.results115
 iterate 3 refine r_no rfl ?_
 refine zz ?_
 refine s_mv ?_
 iterate 3 refine r_no rfl ?_
 refine zz ?_
 refine s_mv ?_
 iterate 4 refine r_no rfl ?_
 refine zz ?_
 refine s_as ?_
 refine zf (zd (zh (zj (zg (zn ?_)))))
 cases F5
 exact zk _ [] Tryz.results115
 refine zb (za ?_)
 refine s_eq ?_
 refine s_as ?_
 refine zf (zd ?_)
 refine zm F3 ?_ ?_<;>intro C9 F4
 refine zb (za ?_)
 refine s_fa zcm ?_
 refine zu yA9 ?_
 refine zhr ?_
 refine s_mv ?_
 refine zp _ 50 F4 ?_ ?_<;>intro C10 F5
 refine s_fa zhq ?_
 refine zu yA3 ?_
 obtain ⟨v11,V11,F6⟩:=zc F5
 refine zv [] (zfd fu _ _ _ _ V11) ?_
 refine zA ?_
 refine s_mv ?_
 refine zp _ 55 F6 ?_ ?_<;>intro C12 F7
 refine s_fa zf3 ?_
 refine zu yA27 ?_
 refine zC yU27 ?_
 refine s_eq ?_
 refine zA ?_
 refine s_mv ?_
 refine zp _ 61 F7 ?_ ?_<;>intro C13 F8
 refine s_fa zF ?_
 refine zu yA24 ?_
 refine zC yU24 ?_
 refine s_eq ?_
 refine zA ?_
 refine s_as ?_
 refine zf (zd (zh (zj (zg (zn ?_)))))
 cases F8
 exact zk _ [] Tryz.results115
 iterate 4 refine r_no rfl ?_
 refine zz ?_
 refine s_as ?_
 refine zf (zd (zh (zj (zg (zn ?_)))))
 cases F8
 exact zk _ [] Tryz.results115
 iterate 4 refine r_no rfl ?_
 refine zz ?_
 refine s_mv ?_
 iterate 4 refine r_no rfl ?_
 refine zz ?_
 refine s_as ?_
 refine zf (zd (zh (zj (zg (zn ?_)))))
 cases F7
 exact zk _ [] Tryz.results115
 iterate 3 refine r_no rfl ?_
 refine zz ?_
 refine s_mv ?_
 iterate 4 refine r_no rfl ?_
 refine zz ?_
 refine s_mv ?_
 iterate 4 refine r_no rfl ?_
 refine zz ?_
 refine s_as ?_
 refine zf (zd (zh (zj (zg (zn ?_)))))
 cases F5
 exact zk _ [] Tryz.results115
 refine zb (za ?_)
 refine s_eq ?_
 refine s_as ?_
 refine zf (zd ?_)
 refine zm F4 ?_ ?_<;>intro C14 F5
 refine zb (zb (za ?_))
 refine s_fa zcm ?_
 refine zu yA9 ?_
 refine s_neS ?_
 refine s_mv ?_
 refine zp _ 72 F5 ?_ ?_<;>intro C15 F6
 iterate 3 refine r_no rfl ?_
 refine zA ?_
 refine s_mv ?_
 iterate 4 refine r_no rfl ?_
 refine zA ?_
 refine zf (zd (zT rfl (zb (za ?_))))
 refine s_as ?_
 refine zf (zd (zh (zg (zj (zg (zn ?_))))))
 cases F6
 exact zk _ [] Tryz.results115
 refine s_fa zhq ?_
 refine zu yA3 ?_
 refine s_ne ?_
 refine zz ?_
 refine s_mv ?_
 refine zp _ 77 F6 ?_ ?_<;>intro C16 F7
 iterate 4 refine r_no rfl ?_
 refine zA ?_
 refine zf (zd (zT rfl (zb (za ?_))))
 refine s_as ?_
 refine zf (zd (zh (zg (zj (zg (zn ?_))))))
 cases F7
 exact zk _ [] Tryz.results115
 refine s_fa zf3 ?_
 refine zu yA27 ?_
 refine zC yU27 ?_
 refine s_gt ?_
 refine zz ?_
 refine zf (zd ?_)
 refine zm F7 ?_ ?_<;>intro C17 F8
 refine zM 79 (fun B18=>?_)
 refine zb (za ?_)
 refine s_as ?_
 refine zf (zd (zh (zg (zj (zg (zn ?_))))))
 cases F8
 exact zk _ [] Tryz.results115
 refine zi (zd (zb (zb (za ?_))))
 refine s_fa zF ?_
 refine zu yA24 ?_
 refine zC yU24 ?_
 refine s_mv ?_
 refine zf (zd (zl ?_))
 refine zaK (β:=Int × Int) [6,8,86,87,88,89,90,91,92,93,94,95,96] [9000] [8] (fun a=>[(86,.t (.sc (.int .i64 a.2.1)))]) (fun a=>[(9000,.box [.t (.sc (.int .i64 a.2.2))])]) (fun a=>a.1≤fu∧zcK a.1 x1 x2 a.2.1 a.2.2=some r∧0≤a.2.1) (fu,0,(w64 (o1-1))) ⟨Nat.le_refl _,F8,by simp⟩ ?_
 clear F8
 rintro ⟨fu,g19,g20⟩ ⟨hl21,F9,hn_g19⟩
 dsimp only at hl21 F9 hn_g19 ⊢
 obtain _ | fu:=fu
 · rw [zcK] at F9;cases F9
 rw [zcK] at F9
 refine zb (za ?_)
 refine s_lt ?_
 refine zf (zd (zb ?_))
 refine zm F9 ?_ ?_<;>intro C22 F10
 refine zM 84 (fun B23=>?_)
 refine zi (zd (zb (zl (zb (za ?_)))))
 obtain ⟨v24,V24,F11⟩:=zc F10
 refine zK Form.row V24 (Form.row_eq _) yE24 ?_
 refine zam yA32 yS32 ?_
 refine zU yZ32 ?_
 refine zac yS32 ?_
 refine zf (zd (zb (za ?_)))
 refine zI yA32 yS32 ?_
 refine s_mv ?_
 refine zJ rfl ?_
 refine s_mv ?_
 obtain ⟨v25,V25,F12⟩:=zc F11
 refine zY [(9000,9000)] [] _ _ (ih_m_impl_formOk fu (by omega) _ _ _ _ V25) ?_
 refine zaY ?_
 refine zf (zd ?_)
 refine zm F12 ?_ ?_<;>intro C26 F13
 refine zb (za ?_)
 refine s_as ?_
 refine zf (zd (zh (zj (zg (zw (zj (zg (zj (zg (zn ?_))))))))))
 cases F13
 exact zk _ [] Tryz.results115
 refine zi (zW (zd (za ?_)))
 refine zJ (zas C22 B23 hn_g19) ?_
 refine s_mv ?_
 refine zf ?_
 exact s_rn (fu,(g19+1),v25.2) ⟨by first | omega | (dsimp only;omega),F13,by first | omega | (dsimp only;omega)⟩
 refine zy (zq (zo (zr (zd (zb (za ?_))))))
 refine s_as ?_
 refine zf (zd (zh (zj (zg (zn ?_)))))
 cases F10
 exact zk _ [] Tryz.results115
 refine zi (zW (zd (zb (za ?_))))
 refine s_as ?_
 refine zf (zd (zh (zn ?_)))
 cases F5
 exact zk _ [] Tryz.results115
theorem m_impl_formOk_all (fuel:Nat):zgz fuel:=by
 induction fuel using Nat.strongRecOn with
 | _ N ih =>
   cases N with
   | zero=>exact (by intro x1 x2 o1 r h;rw [zeO] at h;cases h)
   | succ fu=>exact m_impl_formOk_st fu (fun k hk=>(ih k (by omega)))
theorem m_impl_formOk_ok (fuel:Nat):zgz fuel:=(m_impl_formOk_all fuel)
def m_impl_FormValid_AC (fuel:Nat):Prop:=∀ (x1:Form) (r:Bool),zbR fuel x1=some r→AC Tryz.prog 57 [.ag [.t (.sc (.int .i64 x1.kind)),.t (.sc (.str x1.name)),.t (.sc (.int .i64 x1.n)),.t (.sl (x1.scopes.map rI)),.t (.sl (x1.kids.map Form.row))]] noOb (.t (.sc (.bool r))) noOb
theorem zcV (fuel:Nat):m_impl_FormValid_AC fuel:=by
 intro x1 r F0
 unfold zbR at F0
 refine AC_i [.t (.sc (.bool r))] Tryz.func57 rfl Tryz.ntmps57 ?_
 intro C hC
 refine zb (za ?_)
 refine zaL ?_
 refine s_as ?_
 refine zf (zd (zb (za ?_)))
 refine zU yZ3 ?_
 refine zac yS3 ?_
 refine zf (zd (zb (za ?_)))
 refine zI yA32 yS32 ?_
 obtain ⟨v1,V1,F1⟩:=zc F0
 refine zY [(9000,3)] [] _ _ (m_impl_formOk_ok fuel _ _ _ _ V1) ?_
 refine s_as ?_
 refine zf (zd (zh (zn ?_)))
 cases F1
 exact zk [] [] Tryz.results57
def m_impl_isName_AC (fuel:Nat):Prop:=∀ (x1:Form) (r:Bool),zdC fuel x1=some r→AC Tryz.prog 100 [.ag [.t (.sc (.int .i64 x1.kind)),.t (.sc (.str x1.name)),.t (.sc (.int .i64 x1.n)),.t (.sl (x1.scopes.map rI)),.t (.sl (x1.kids.map Form.row))]] noOb (.t (.sc (.bool r))) noOb
theorem zff (fuel:Nat):m_impl_isName_AC fuel:=by
 intro x1 r F0
 unfold zdC at F0
 refine AC_i [.t (.sc (.bool r))] Tryz.func100 rfl Tryz.ntmps100 ?_
 intro C hC
 refine zb (za ?_)
 refine zaL ?_
 refine s_as ?_
 refine zf (zd (zb (za ?_)))
 refine s_fa zcY ?_
 refine zu yA3 ?_
 refine s_eq ?_
 refine s_mv ?_
 refine zp _ 6 F0 ?_ ?_<;>intro C1 F1
 refine zI yA32 yS32 ?_
 obtain ⟨v2,V2,F2⟩:=zc F1
 refine zv [] (zcV fuel _ _ V2) ?_
 refine zA ?_
 refine s_as ?_
 refine zf (zd (zh (zn ?_)))
 cases F2
 exact zk [] [] Tryz.results100
 refine r_no rfl (r_no rfl ?_)
 refine zz ?_
 refine s_as ?_
 refine zf (zd (zh (zn ?_)))
 cases F1
 exact zk [] [] Tryz.results100
def m_slices_Equal_int_AC (fuel:Nat):Prop:=∀ (x1:(List Int)) (x2:(List Int)) (r:Bool),zdj fuel x1 x2=some r→AC Tryz.prog 38 [.t (.sl (x1.map rI)),.t (.sl (x2.map rI))] noOb (.t (.sc (.bool r))) noOb
theorem zhv (fuel:Nat):m_slices_Equal_int_AC fuel:=by
 intro x1 x2 r F0
 unfold zdj at F0
 refine AC_i [.t (.sc (.bool r))] Tryz.func38 rfl Tryz.ntmps38 ?_
 intro C hC
 refine zb (za ?_)
 refine s_as ?_
 refine zf (zd (zb (zb (za ?_))))
 refine s_mv ?_
 refine zC yU27 ?_
 refine s_mv ?_
 refine zC yU27 ?_
 refine s_ne ?_
 refine zf (zd ?_)
 refine zm F0 ?_ ?_<;>intro C1 F1
 refine zb (za ?_)
 refine s_as ?_
 refine zf (zd (zh (zg (zn ?_))))
 cases F1
 exact zk [] [] Tryz.results38
 refine zi (zd (zb (zb (za ?_))))
 refine s_mv ?_
 refine zC yU27 ?_
 refine s_mv ?_
 refine zf (zd (zl ?_))
 refine zaK (β:=Int) [4,5,13,14,15,16,17,18,19,20,21,22,23,24,25] [] [] (fun a=>[(13,.t (.sc (.int .i64 a.2)))]) (fun a=>[]) (fun a=>a.1≤fuel∧zbJ a.1 x1 x2 a.2=some r∧0≤a.2) (fuel,0) ⟨Nat.le_refl _,F1,by simp⟩ ?_
 clear F1
 rintro ⟨fu,g2⟩ ⟨hl3,F2,hn_g2⟩
 dsimp only at hl3 F2 hn_g2 ⊢
 obtain _ | fu:=fu
 · rw [zbJ] at F2;cases F2
 rw [zbJ] at F2
 refine zb (za ?_)
 refine s_lt ?_
 refine zf (zd (zb ?_))
 refine zm F2 ?_ ?_<;>intro C4 F3
 refine zM 0 (fun B5=>?_)
 refine zi (zd (zb (zl (zb (za ?_)))))
 refine s_mv ?_
 refine s_as ?_
 refine zf (zd (zb ?_))
 refine zO yMix (by kernel_rfl) ?_
 refine s_mv ?_
 refine s_mv ?_
 obtain ⟨v6,V6,F4⟩:=zc F3
 refine zK rI V6 rfl yE27 ?_
 refine zu yA3 ?_
 refine s_mv ?_
 refine s_mv ?_
 obtain ⟨v7,V7,F5⟩:=zc F4
 refine zK rI V7 rfl yE27 ?_
 refine zu yA3 ?_
 refine s_ne ?_
 refine zae (by kernel_rfl) ?_
 refine zd ?_
 refine zm F5 ?_ ?_<;>intro C8 F6
 refine zb (za ?_)
 refine s_as ?_
 refine zf (zd (zh (zj (zg (zw (zj (zg (zn ?_))))))))
 cases F6
 exact zk [] [] Tryz.results38
 refine zi (zW (zd (za ?_)))
 refine zJ (zas C4 B5 hn_g2) ?_
 refine s_mv ?_
 refine zf ?_
 exact s_rn (fu,(g2+1)) ⟨by first | omega | (dsimp only;omega),F6,by first | omega | (dsimp only;omega)⟩
 refine zy (zq (zo (zr (zd (zb (za ?_))))))
 refine s_as ?_
 refine zf (zd (zh (zn ?_)))
 cases F3
 exact zk [] [] Tryz.results38
def zei (fuel:Nat):Prop:=∀ (x1:Form) (x2:Form) (r:Bool),zaq fuel x1 x2=some r→AC Tryz.prog 15 [.ag [.t (.sc (.int .i64 x1.kind)),.t (.sc (.str x1.name)),.t (.sc (.int .i64 x1.n)),.t (.sl (x1.scopes.map rI)),.t (.sl (x1.kids.map Form.row))],.ag [.t (.sc (.int .i64 x2.kind)),.t (.sc (.str x2.name)),.t (.sc (.int .i64 x2.n)),.t (.sl (x2.scopes.map rI)),.t (.sl (x2.kids.map Form.row))]] noOb (.t (.sc (.bool r))) noOb
def zbk (fuel:Nat):Prop:=∀ (x1:(List Form)) (x2:(List Form)) (r:Bool),za0 fuel x1 x2=some r→AC Tryz.prog 39 [.t (.sl (x1.map Form.row)),.t (.sl (x2.map Form.row)),.fn 15 []] noOb (.t (.sc (.bool r))) noOb
theorem m_impl_FormSame_st (fu:Nat) (ih_m_impl_FormSame:∀ k,k≤fu→zei k) (ih_m_slices_EqualFunc_Form_FormSame:∀ k,k≤fu→zbk k):zei (fu+1):=by
 intro x1 x2 r F0
 rw [zaq] at F0
 refine AC_i [.t (.sc (.bool r))] Tryz.func15 rfl Tryz.ntmps15 ?_
 intro C hC
 refine zb (za ?_)
 refine zaL ?_
 refine zaL ?_
 refine s_as ?_
 refine zf (zd (zb (za ?_)))
 refine s_fa zcY ?_
 refine zu yA3 ?_
 refine s_fa zcY ?_
 refine zu yA3 ?_
 refine s_eq ?_
 refine s_mv ?_
 refine zp _ 10 F0 ?_ ?_<;>intro C1 F1
 refine s_fa zcm ?_
 refine zu yA9 ?_
 refine s_fa zcm ?_
 refine zu yA9 ?_
 refine zhr ?_
 refine zA ?_
 refine s_mv ?_
 refine zp _ 17 F1 ?_ ?_<;>intro C2 F2
 refine s_fa zhq ?_
 refine zu yA3 ?_
 refine s_fa zhq ?_
 refine zu yA3 ?_
 refine s_eq ?_
 refine zA ?_
 refine s_mv ?_
 refine zp _ 24 F2 ?_ ?_<;>intro C3 F3
 refine s_fa zf3 ?_
 refine zu yA27 ?_
 refine s_fa zf3 ?_
 refine zu yA27 ?_
 obtain ⟨v4,V4,F4⟩:=zc F3
 refine zv [] (zhv fu _ _ _ V4) ?_
 refine zA ?_
 refine s_mv ?_
 refine zp _ 31 F4 ?_ ?_<;>intro C5 F5
 refine s_fa zF ?_
 refine zu yA24 ?_
 refine s_fa zF ?_
 refine zu yA24 ?_
 obtain ⟨v6,V6,F6⟩:=zc F5
 refine zv [] (ih_m_slices_EqualFunc_Form_FormSame fu (by omega) _ _ _ V6) ?_
 refine zA ?_
 refine s_as ?_
 refine zf (zd (zh (zn ?_)))
 cases F6
 exact zk [] [] Tryz.results15
 iterate 5 refine r_no rfl ?_
 refine zz ?_
 refine s_as ?_
 refine zf (zd (zh (zn ?_)))
 cases F5
 exact zk [] [] Tryz.results15
 iterate 5 refine r_no rfl ?_
 refine zz ?_
 refine s_mv ?_
 iterate 5 refine r_no rfl ?_
 refine zz ?_
 refine s_as ?_
 refine zf (zd (zh (zn ?_)))
 cases F3
 exact zk [] [] Tryz.results15
 iterate 5 refine r_no rfl ?_
 refine zz ?_
 refine s_mv ?_
 iterate 5 refine r_no rfl ?_
 refine zz ?_
 refine s_mv ?_
 iterate 5 refine r_no rfl ?_
 refine zz ?_
 refine s_as ?_
 refine zf (zd (zh (zn ?_)))
 cases F2
 exact zk [] [] Tryz.results15
 iterate 5 refine r_no rfl ?_
 refine zz ?_
 refine s_mv ?_
 iterate 5 refine r_no rfl ?_
 refine zz ?_
 refine s_mv ?_
 iterate 5 refine r_no rfl ?_
 refine zz ?_
 refine s_mv ?_
 iterate 5 refine r_no rfl ?_
 refine zz ?_
 refine s_as ?_
 refine zf (zd (zh (zn ?_)))
 cases F1
 exact zk [] [] Tryz.results15
theorem zgH (fu:Nat) (ih_m_impl_FormSame:∀ k,k≤fu→zei k) (ih_m_slices_EqualFunc_Form_FormSame:∀ k,k≤fu→zbk k):zbk (fu+1):=by
 intro x1 x2 r F0
 rw [za0] at F0
 refine AC_i [.t (.sc (.bool r))] Tryz.func39 rfl Tryz.ntmps39 ?_
 intro C hC
 refine zb (za ?_)
 refine s_as ?_
 refine zf (zd (zb (zb (za ?_))))
 refine s_mv ?_
 refine zC yU24 ?_
 refine s_mv ?_
 refine zC yU24 ?_
 refine s_ne ?_
 refine zf (zd ?_)
 refine zm F0 ?_ ?_<;>intro C1 F1
 refine zb (za ?_)
 refine s_as ?_
 refine zf (zd (zh (zg (zn ?_))))
 cases F1
 exact zk [] [] Tryz.results39
 refine zi (zd (zb (zb (za ?_))))
 refine s_mv ?_
 refine zC yU24 ?_
 refine s_mv ?_
 refine zf (zd (zl ?_))
 refine zaK (β:=Int) [6,7,8,9,17,18,19,20,21,22,23,24,25,26,27,28,29,30,31] [] [8,9] (fun a=>[(17,.t (.sc (.int .i64 a.2)))]) (fun a=>[]) (fun a=>a.1≤fu∧zag a.1 x1 x2 a.2=some r∧0≤a.2) (fu,0) ⟨Nat.le_refl _,F1,by simp⟩ ?_
 clear F1
 rintro ⟨fu,g2⟩ ⟨hl3,F2,hn_g2⟩
 dsimp only at hl3 F2 hn_g2 ⊢
 obtain _ | fu:=fu
 · rw [zag] at F2;cases F2
 rw [zag] at F2
 refine zb (za ?_)
 refine s_lt ?_
 refine zf (zd (zb ?_))
 refine zm F2 ?_ ?_<;>intro C4 F3
 refine zM 0 (fun B5=>?_)
 refine zi (zd (zb (zl (zb (za ?_)))))
 refine s_mv ?_
 obtain ⟨v6,V6,F4⟩:=zc F3
 refine zK Form.row V6 (Form.row_eq _) yE24 ?_
 refine zam yA32 yS32 ?_
 refine zU yZ32 ?_
 refine s_as ?_
 refine zac yS32 ?_
 refine zf (zd (zb (za ?_)))
 refine s_mv ?_
 refine s_mv ?_
 obtain ⟨v7,V7,F5⟩:=zc F4
 refine zK Form.row V7 (Form.row_eq _) yE24 ?_
 refine zam yA32 yS32 ?_
 refine zU yZ32 ?_
 refine zac yS32 ?_
 refine zf (zd (zb (za ?_)))
 refine s_mv ?_
 refine zI yA32 yS32 ?_
 refine zI yA32 yS32 ?_
 obtain ⟨v8,V8,F6⟩:=zc F5
 refine zv [] (ih_m_impl_FormSame fu (by omega) _ _ _ V8) ?_
 refine zaY ?_
 refine zf (zd ?_)
 refine zm F6 ?_ ?_<;>intro C9 F7
 refine zb (za ?_)
 refine s_as ?_
 refine zf (zd (zh (zj (zg (zw (zj (zg (zn ?_))))))))
 cases F7
 exact zk [] [] Tryz.results39
 refine zi (zW (zd (za ?_)))
 refine zJ (zas C4 B5 hn_g2) ?_
 refine s_mv ?_
 refine zf ?_
 exact s_rn (fu,(g2+1)) ⟨by first | omega | (dsimp only;omega),F7,by first | omega | (dsimp only;omega)⟩
 refine zy (zq (zo (zr (zd (zb (za ?_))))))
 refine s_as ?_
 refine zf (zd (zh (zn ?_)))
 cases F3
 exact zk [] [] Tryz.results39
theorem m_impl_FormSame_all (fuel:Nat):zei fuel∧zbk fuel:=by
 induction fuel using Nat.strongRecOn with
 | _ N ih =>
   cases N with
   | zero=>exact ⟨(by intro x1 x2 r h;rw [zaq] at h;cases h),(by intro x1 x2 r h;rw [za0] at h;cases h)⟩
   | succ fu=>exact ⟨m_impl_FormSame_st fu (fun k hk=>(ih k (by omega)).1) (fun k hk=>(ih k (by omega)).2),zgH fu (fun k hk=>(ih k (by omega)).1) (fun k hk=>(ih k (by omega)).2)⟩
theorem zaU (fuel:Nat):zei fuel:=(m_impl_FormSame_all fuel).1
def zdV (fuel:Nat):Prop:=∀ (x1:Hit) (r:Bool),zeH fuel x1=some r→AC Tryz.prog 48 [.ag [.t (.sc (.int .i64 x1.name.kind)),.t (.sc (.str x1.name.name)),.t (.sc (.int .i64 x1.name.n)),.t (.sl (x1.name.scopes.map rI)),.t (.sl (x1.name.kids.map Form.row)),.t (.sc (.int .i64 x1.depth)),.t (.sc (.int .i64 x1.one.kind)),.t (.sc (.str x1.one.name)),.t (.sc (.int .i64 x1.one.n)),.t (.sl (x1.one.scopes.map rI)),.t (.sl (x1.one.kids.map Form.row)),.t (.sl (x1.many.map Hit.row))]] noOb (.t (.sc (.bool r))) noOb
def zdR (fuel:Nat):Prop:=∀ (x1:Hit) (o1:Hit) (r:Bool),zep fuel x1 o1=some r→AC Tryz.prog 103 [.ag [.t (.sc (.int .i64 x1.name.kind)),.t (.sc (.str x1.name.name)),.t (.sc (.int .i64 x1.name.n)),.t (.sl (x1.name.scopes.map rI)),.t (.sl (x1.name.kids.map Form.row)),.t (.sc (.int .i64 x1.depth)),.t (.sc (.int .i64 x1.one.kind)),.t (.sc (.str x1.one.name)),.t (.sc (.int .i64 x1.one.n)),.t (.sl (x1.one.scopes.map rI)),.t (.sl (x1.one.kids.map Form.row)),.t (.sl (x1.many.map Hit.row))],.rf 9000 0] (objs [(9000,.box [.t (.sc (.int .i64 o1.name.kind)),.t (.sc (.str o1.name.name)),.t (.sc (.int .i64 o1.name.n)),.t (.sl (o1.name.scopes.map rI)),.t (.sl (o1.name.kids.map Form.row)),.t (.sc (.int .i64 o1.depth)),.t (.sc (.int .i64 o1.one.kind)),.t (.sc (.str o1.one.name)),.t (.sc (.int .i64 o1.one.n)),.t (.sl (o1.one.scopes.map rI)),.t (.sl (o1.one.kids.map Form.row)),.t (.sl (o1.many.map Hit.row))])]) (.t (.sc (.bool r))) (objs [(9000,.box [.t (.sc (.int .i64 o1.name.kind)),.t (.sc (.str o1.name.name)),.t (.sc (.int .i64 o1.name.n)),.t (.sl (o1.name.scopes.map rI)),.t (.sl (o1.name.kids.map Form.row)),.t (.sc (.int .i64 o1.depth)),.t (.sc (.int .i64 o1.one.kind)),.t (.sc (.str o1.one.name)),.t (.sc (.int .i64 o1.one.n)),.t (.sl (o1.one.scopes.map rI)),.t (.sl (o1.one.kids.map Form.row)),.t (.sl (o1.many.map Hit.row))])])
def zav (fuel:Nat):Prop:=∀ (x1:(List Hit)) (o1:Hit) (r:Bool),zaQ fuel x1 o1=some r→AC Tryz.prog 102 [.t (.sl (x1.map Hit.row)),.fn 103 [.rf 9000 0]] (objs [(9000,.box [.t (.sc (.int .i64 o1.name.kind)),.t (.sc (.str o1.name.name)),.t (.sc (.int .i64 o1.name.n)),.t (.sl (o1.name.scopes.map rI)),.t (.sl (o1.name.kids.map Form.row)),.t (.sc (.int .i64 o1.depth)),.t (.sc (.int .i64 o1.one.kind)),.t (.sc (.str o1.one.name)),.t (.sc (.int .i64 o1.one.n)),.t (.sl (o1.one.scopes.map rI)),.t (.sl (o1.one.kids.map Form.row)),.t (.sl (o1.many.map Hit.row))])]) (.t (.sc (.bool r))) (objs [(9000,.box [.t (.sc (.int .i64 o1.name.kind)),.t (.sc (.str o1.name.name)),.t (.sc (.int .i64 o1.name.n)),.t (.sl (o1.name.scopes.map rI)),.t (.sl (o1.name.kids.map Form.row)),.t (.sc (.int .i64 o1.depth)),.t (.sc (.int .i64 o1.one.kind)),.t (.sc (.str o1.one.name)),.t (.sc (.int .i64 o1.one.n)),.t (.sl (o1.one.scopes.map rI)),.t (.sl (o1.one.kids.map Form.row)),.t (.sl (o1.many.map Hit.row))])])
def zay (fuel:Nat):Prop:=∀ (x1:(List Hit)) (o1:Hit) (r:Int),zbg fuel x1 o1=some r→AC Tryz.prog 104 [.t (.sl (x1.map Hit.row)),.fn 103 [.rf 9000 0]] (objs [(9000,.box [.t (.sc (.int .i64 o1.name.kind)),.t (.sc (.str o1.name.name)),.t (.sc (.int .i64 o1.name.n)),.t (.sl (o1.name.scopes.map rI)),.t (.sl (o1.name.kids.map Form.row)),.t (.sc (.int .i64 o1.depth)),.t (.sc (.int .i64 o1.one.kind)),.t (.sc (.str o1.one.name)),.t (.sc (.int .i64 o1.one.n)),.t (.sl (o1.one.scopes.map rI)),.t (.sl (o1.one.kids.map Form.row)),.t (.sl (o1.many.map Hit.row))])]) (.t (.sc (.int .i64 r))) (objs [(9000,.box [.t (.sc (.int .i64 o1.name.kind)),.t (.sc (.str o1.name.name)),.t (.sc (.int .i64 o1.name.n)),.t (.sl (o1.name.scopes.map rI)),.t (.sl (o1.name.kids.map Form.row)),.t (.sc (.int .i64 o1.depth)),.t (.sc (.int .i64 o1.one.kind)),.t (.sc (.str o1.one.name)),.t (.sc (.int .i64 o1.one.n)),.t (.sl (o1.one.scopes.map rI)),.t (.sl (o1.one.kids.map Form.row)),.t (.sl (o1.many.map Hit.row))])])
theorem m_impl_hitOk_st (fu:Nat) (ih_m_impl_hitOk:∀ k,k≤fu→zdV k) (ih_m_impl_hitOk_1:∀ k,k≤fu→zdR k) (ih_m_slices_ContainsFunc_Hit_hitOk_1:∀ k,k≤fu→zav k) (ih_m_slices_IndexFunc_Hit_hitOk_1:∀ k,k≤fu→zay k):zdV (fu+1):=by
 intro x1 r F0
 rw [zeH] at F0
 refine AC_i [.t (.sc (.bool r))] Tryz.func48 rfl Tryz.ntmps48 ?_
 intro C hC
 refine zb (za ?_)
 refine zaL ?_
 refine s_as ?_
 refine zf (zd (zb (zb (za ?_))))
 refine s_fa zix ?_
 refine zam yA32 yS32 ?_
 obtain ⟨v1,V1,F1⟩:=zc F0
 refine zv [] (zff fu _ _ V1) ?_
 refine zaY ?_
 refine s_mv ?_
 refine zp _ 7 F1 ?_ ?_<;>intro C2 F2
 iterate 4 refine r_no rfl ?_
 refine zA ?_
 refine s_mv ?_
 iterate 4 refine r_no rfl ?_
 refine zA ?_
 refine s_mv ?_
 iterate 4 refine r_no rfl ?_
 refine zA ?_
 refine zf (zd (zT rfl (zb (za ?_))))
 refine s_as ?_
 refine zf (zd (zh (zg (zn ?_))))
 cases F2
 exact zk [] [] Tryz.results48
 refine s_fa zix ?_
 refine s_fa zcm ?_
 refine zu yA9 ?_
 refine zhr ?_
 refine zz ?_
 refine s_mv ?_
 refine zp _ 13 F2 ?_ ?_<;>intro C3 F3
 iterate 4 refine r_no rfl ?_
 refine zA ?_
 refine s_mv ?_
 iterate 4 refine r_no rfl ?_
 refine zA ?_
 refine zf (zd (zT rfl (zb (za ?_))))
 refine s_as ?_
 refine zf (zd (zh (zg (zn ?_))))
 cases F3
 exact zk [] [] Tryz.results48
 refine s_fa zix ?_
 refine s_fa zcm ?_
 refine zu yA9 ?_
 refine zhr ?_
 refine zz ?_
 refine s_mv ?_
 refine zp _ 19 F3 ?_ ?_<;>intro C4 F4
 iterate 4 refine r_no rfl ?_
 refine zA ?_
 refine zf (zd (zT rfl (zb (za ?_))))
 refine s_as ?_
 refine zf (zd (zh (zg (zn ?_))))
 cases F4
 exact zk [] [] Tryz.results48
 refine s_fa zhU ?_
 refine zu yA3 ?_
 obtain ⟨v5,V5,F5⟩:=zc F4
 refine zv [] (zfd fu _ _ _ _ V5) ?_
 refine zaY ?_
 refine zz ?_
 refine zf (zd ?_)
 refine zm F5 ?_ ?_<;>intro C6 F6
 refine zb (za ?_)
 refine s_as ?_
 refine zf (zd (zh (zg (zn ?_))))
 cases F6
 exact zk [] [] Tryz.results48
 refine zi (zd (zb (zb (za ?_))))
 refine s_fa zhU ?_
 refine zu yA3 ?_
 refine s_eq ?_
 refine zf (zd ?_)
 refine zm F6 ?_ ?_<;>intro C7 F7
 refine zb (za ?_)
 refine s_fa yF48_2 ?_
 refine zam yA32 yS32 ?_
 obtain ⟨v8,V8,F8⟩:=zc F7
 refine zv [] (zcV fu _ _ V8) ?_
 refine s_mv ?_
 refine zp _ 31 F8 ?_ ?_<;>intro C9 F9
 refine s_fa ziw ?_
 refine zu yA42 ?_
 refine zC yU42 ?_
 refine s_eq ?_
 refine zA ?_
 refine s_as ?_
 refine zf (zd (zh (zg (zn ?_))))
 cases F9
 exact zk [] [] Tryz.results48
 iterate 4 refine r_no rfl ?_
 refine zz ?_
 refine s_as ?_
 refine zf (zd (zh (zg (zn ?_))))
 cases F9
 exact zk [] [] Tryz.results48
 refine zi (zd (zb (za ?_)))
 refine s_fa yF48_2 ?_
 refine zam yA32 yS32 ?_
 refine zgD yZ32 yL32 ?_
 obtain ⟨v10,V10,F8⟩:=zc F7
 refine zv [] (zaU fu _ _ _ V10) ?_
 refine s_mv ?_
 refine zp _ 41 F8 ?_ ?_<;>intro C11 F9
 refine s_fa ziw ?_
 refine zu yA42 ?_
 refine zC yU42 ?_
 refine s_le ?_
 refine zA ?_
 refine s_mv ?_
 refine zp _ 47 F9 ?_ ?_<;>intro C12 F10
 refine s_fa ziw ?_
 refine zu yA42 ?_
 refine s_fn ?_
 obtain ⟨v13,V13,F11⟩:=zc F10
 refine zY [(9000,1)] [] _ _ (ih_m_slices_ContainsFunc_Hit_hitOk_1 fu (by omega) _ _ _ V13) ?_
 refine zaY ?_
 refine zA ?_
 refine s_as ?_
 refine zf (zd (zh (zn ?_)))
 cases F11
 exact zk [] [] Tryz.results48
 iterate 5 refine r_no rfl ?_
 refine zz ?_
 refine s_as ?_
 refine zf (zd (zh (zn ?_)))
 cases F10
 exact zk [] [] Tryz.results48
 iterate 4 refine r_no rfl ?_
 refine zz ?_
 refine s_mv ?_
 iterate 5 refine r_no rfl ?_
 refine zz ?_
 refine s_as ?_
 refine zf (zd (zh (zn ?_)))
 cases F9
 exact zk [] [] Tryz.results48
theorem m_impl_hitOk_1_st (fu:Nat) (ih_m_impl_hitOk:∀ k,k≤fu→zdV k) (ih_m_impl_hitOk_1:∀ k,k≤fu→zdR k) (ih_m_slices_ContainsFunc_Hit_hitOk_1:∀ k,k≤fu→zav k) (ih_m_slices_IndexFunc_Hit_hitOk_1:∀ k,k≤fu→zay k):zdR (fu+1):=by
 intro x1 o1 r F0
 rw [zep] at F0
 refine AC_i [.t (.sc (.bool r))] Tryz.func103 rfl Tryz.ntmps103 ?_
 intro C hC
 refine zb (za ?_)
 refine zaL ?_
 refine s_as ?_
 refine zf (zd (zb (za ?_)))
 refine s_fa zix ?_
 refine zam yA32 yS32 ?_
 refine s_fa zix ?_
 refine zam yA32 yS32 ?_
 obtain ⟨v1,V1,F1⟩:=zc F0
 refine zv [] (zaU fu _ _ _ V1) ?_
 refine zaY ?_
 refine s_mv ?_
 refine zp _ 10 F1 ?_ ?_<;>intro C2 F2
 iterate 6 refine r_no rfl ?_
 refine zA ?_
 refine s_mv ?_
 iterate 3 refine r_no rfl ?_
 refine zA ?_
 refine s_as ?_
 refine zf (zd (zh (zn ?_)))
 cases F2
 exact zk _ [] Tryz.results103
 refine s_fa zhU ?_
 refine zu yA3 ?_
 refine s_fa zhU ?_
 refine zu yA3 ?_
 refine zh9 rfl ?_
 refine s_ne ?_
 refine zz ?_
 refine s_mv ?_
 refine zp _ 18 F2 ?_ ?_<;>intro C3 F3
 iterate 3 refine r_no rfl ?_
 refine zA ?_
 refine s_as ?_
 refine zf (zd (zh (zn ?_)))
 cases F3
 exact zk _ [] Tryz.results103
 refine zI yA48 yS48 ?_
 obtain ⟨v4,V4,F4⟩:=zc F3
 refine zv [] (ih_m_impl_hitOk fu (by omega) _ _ V4) ?_
 refine zaY ?_
 refine zz ?_
 refine s_as ?_
 refine zf (zd (zh (zn ?_)))
 cases F4
 exact zk _ [] Tryz.results103
theorem zgg (fu:Nat) (ih_m_impl_hitOk:∀ k,k≤fu→zdV k) (ih_m_impl_hitOk_1:∀ k,k≤fu→zdR k) (ih_m_slices_ContainsFunc_Hit_hitOk_1:∀ k,k≤fu→zav k) (ih_m_slices_IndexFunc_Hit_hitOk_1:∀ k,k≤fu→zay k):zav (fu+1):=by
 intro x1 o1 r F0
 rw [zaQ] at F0
 refine AC_i [.t (.sc (.bool r))] Tryz.func102 rfl Tryz.ntmps102 ?_
 intro C hC
 refine zb (za ?_)
 refine s_as ?_
 refine zf (zd (zb (za ?_)))
 refine s_mv ?_
 refine s_mv ?_
 obtain ⟨v1,V1,F1⟩:=zc F0
 refine zY [(9000,9000)] [] _ _ (ih_m_slices_IndexFunc_Hit_hitOk_1 fu (by omega) _ _ _ V1) ?_
 refine s_ge ?_
 refine s_as ?_
 refine zf (zd (zh (zn ?_)))
 cases F1
 exact zk _ [] Tryz.results102
theorem zgZ (fu:Nat) (ih_m_impl_hitOk:∀ k,k≤fu→zdV k) (ih_m_impl_hitOk_1:∀ k,k≤fu→zdR k) (ih_m_slices_ContainsFunc_Hit_hitOk_1:∀ k,k≤fu→zav k) (ih_m_slices_IndexFunc_Hit_hitOk_1:∀ k,k≤fu→zay k):zay (fu+1):=by
 intro x1 o1 r F0
 rw [zbg] at F0
 refine AC_i [.t (.sc (.int .i64 r))] Tryz.func104 rfl Tryz.ntmps104 ?_
 intro C hC
 refine zb (za ?_)
 refine s_as ?_
 refine zf (zd (zb (zb (za ?_))))
 refine s_mv ?_
 refine zC yU42 ?_
 refine s_mv ?_
 refine zf (zd (zl ?_))
 refine zaK (β:=Int) [4,5,8,9,10,11,12,13,14,15,16,17,18] [] [] (fun a=>[(8,.t (.sc (.int .i64 a.2)))]) (fun a=>[]) (fun a=>a.1≤fu∧zao a.1 x1 o1 a.2=some r∧0≤a.2) (fu,0) ⟨Nat.le_refl _,F0,by simp⟩ ?_
 clear F0
 rintro ⟨fu,g1⟩ ⟨hl2,F1,hn_g1⟩
 dsimp only at hl2 F1 hn_g1 ⊢
 obtain _ | fu:=fu
 · rw [zao] at F1;cases F1
 rw [zao] at F1
 refine zb (za ?_)
 refine s_lt ?_
 refine zf (zd (zb ?_))
 refine zm F1 ?_ ?_<;>intro C3 F2
 refine zM 0 (fun B4=>?_)
 refine zi (zd (zb (zl (zb (za ?_)))))
 refine s_mv ?_
 refine s_as ?_
 refine zf (zd (zb (za ?_)))
 iterate 3 refine s_mv ?_
 obtain ⟨v5,V5,F3⟩:=zc F2
 refine zK Hit.row V5 (Hit.row_eq _) yE42 ?_
 refine zam yA48 yS48 ?_
 obtain ⟨v6,V6,F4⟩:=zc F3
 refine zY [(9000,9000)] [] _ _ (ih_m_impl_hitOk_1 fu (by omega) _ _ _ V6) ?_
 refine zf (zd ?_)
 refine zm F4 ?_ ?_<;>intro C7 F5
 refine zb (za ?_)
 refine s_mv ?_
 refine s_as ?_
 refine zf (zd (zh (zj (zg (zw (zj (zg (zn ?_))))))))
 cases F5
 exact zk _ [] Tryz.results104
 refine zi (zW (zd (za ?_)))
 refine zJ (zas C3 B4 hn_g1) ?_
 refine s_mv ?_
 refine zf ?_
 exact s_rn (fu,(g1+1)) ⟨by first | omega | (dsimp only;omega),F5,by first | omega | (dsimp only;omega)⟩
 refine zy (zq (zo (zr (zd (zb (za ?_))))))
 refine s_as ?_
 refine zf (zd (zh (zn ?_)))
 cases F2
 exact zk _ [] Tryz.results104
theorem m_impl_hitOk_all (fuel:Nat):zdV fuel∧zdR fuel∧zav fuel∧zay fuel:=by
 induction fuel using Nat.strongRecOn with
 | _ N ih =>
   cases N with
   | zero=>exact ⟨(by intro x1 r h;rw [zeH] at h;cases h),(by intro x1 o1 r h;rw [zep] at h;cases h),(by intro x1 o1 r h;rw [zaQ] at h;cases h),(by intro x1 o1 r h;rw [zbg] at h;cases h)⟩
   | succ fu=>exact ⟨m_impl_hitOk_st fu (fun k hk=>(ih k (by omega)).1) (fun k hk=>(ih k (by omega)).2.1) (fun k hk=>(ih k (by omega)).2.2.1) (fun k hk=>(ih k (by omega)).2.2.2),m_impl_hitOk_1_st fu (fun k hk=>(ih k (by omega)).1) (fun k hk=>(ih k (by omega)).2.1) (fun k hk=>(ih k (by omega)).2.2.1) (fun k hk=>(ih k (by omega)).2.2.2),zgg fu (fun k hk=>(ih k (by omega)).1) (fun k hk=>(ih k (by omega)).2.1) (fun k hk=>(ih k (by omega)).2.2.1) (fun k hk=>(ih k (by omega)).2.2.2),zgZ fu (fun k hk=>(ih k (by omega)).1) (fun k hk=>(ih k (by omega)).2.1) (fun k hk=>(ih k (by omega)).2.2.1) (fun k hk=>(ih k (by omega)).2.2.2)⟩
theorem m_impl_hitOk_ok (fuel:Nat):zdV fuel:=(m_impl_hitOk_all fuel).1
def m_impl_hitAt_1_AC (fuel:Nat):Prop:=∀ (x1:Hit) (o1:Form) (r:Bool),zeq fuel x1 o1=some r→AC Tryz.prog 105 [.ag [.t (.sc (.int .i64 x1.name.kind)),.t (.sc (.str x1.name.name)),.t (.sc (.int .i64 x1.name.n)),.t (.sl (x1.name.scopes.map rI)),.t (.sl (x1.name.kids.map Form.row)),.t (.sc (.int .i64 x1.depth)),.t (.sc (.int .i64 x1.one.kind)),.t (.sc (.str x1.one.name)),.t (.sc (.int .i64 x1.one.n)),.t (.sl (x1.one.scopes.map rI)),.t (.sl (x1.one.kids.map Form.row)),.t (.sl (x1.many.map Hit.row))],.rf 9000 0] (objs [(9000,.box [.t (.sc (.int .i64 o1.kind)),.t (.sc (.str o1.name)),.t (.sc (.int .i64 o1.n)),.t (.sl (o1.scopes.map rI)),.t (.sl (o1.kids.map Form.row))])]) (.t (.sc (.bool r))) (objs [(9000,.box [.t (.sc (.int .i64 o1.kind)),.t (.sc (.str o1.name)),.t (.sc (.int .i64 o1.n)),.t (.sl (o1.scopes.map rI)),.t (.sl (o1.kids.map Form.row))])])
theorem m_impl_hitAt_1_ok (fuel:Nat):m_impl_hitAt_1_AC fuel:=by
 intro x1 o1 r F0
 unfold zeq at F0
 refine AC_i [.t (.sc (.bool r))] Tryz.func105 rfl Tryz.ntmps105 ?_
 intro C hC
 refine zb (za ?_)
 refine zaL ?_
 refine s_as ?_
 refine zf (zd (zb (za ?_)))
 refine s_fa zix ?_
 refine zam yA32 yS32 ?_
 refine zI yA32 yS32 ?_
 obtain ⟨v1,V1,F1⟩:=zc F0
 refine zv [] (zaU fuel _ _ _ V1) ?_
 refine s_as ?_
 refine zf (zd (zh (zn ?_)))
 cases F1
 exact zk _ [] Tryz.results105
def zg1 (fuel:Nat):Prop:=∀ (x1:(List Hit)) (o1:Form) (r:Int),zbh fuel x1 o1=some r→AC Tryz.prog 104 [.t (.sl (x1.map Hit.row)),.fn 105 [.rf 9000 0]] (objs [(9000,.box [.t (.sc (.int .i64 o1.kind)),.t (.sc (.str o1.name)),.t (.sc (.int .i64 o1.n)),.t (.sl (o1.scopes.map rI)),.t (.sl (o1.kids.map Form.row))])]) (.t (.sc (.int .i64 r))) (objs [(9000,.box [.t (.sc (.int .i64 o1.kind)),.t (.sc (.str o1.name)),.t (.sc (.int .i64 o1.n)),.t (.sl (o1.scopes.map rI)),.t (.sl (o1.kids.map Form.row))])])
theorem zg0 (fuel:Nat):zg1 fuel:=by
 intro x1 o1 r F0
 unfold zbh at F0
 refine AC_i [.t (.sc (.int .i64 r))] Tryz.func104 rfl Tryz.ntmps104 ?_
 intro C hC
 refine zb (za ?_)
 refine s_as ?_
 refine zf (zd (zb (zb (za ?_))))
 refine s_mv ?_
 refine zC yU42 ?_
 refine s_mv ?_
 refine zf (zd (zl ?_))
 refine zaK (β:=Int) [4,5,8,9,10,11,12,13,14,15,16,17,18] [] [] (fun a=>[(8,.t (.sc (.int .i64 a.2)))]) (fun a=>[]) (fun a=>a.1≤fuel∧zX a.1 x1 o1 a.2=some r∧0≤a.2) (fuel,0) ⟨Nat.le_refl _,F0,by simp⟩ ?_
 clear F0
 rintro ⟨fu,g1⟩ ⟨hl2,F1,hn_g1⟩
 dsimp only at hl2 F1 hn_g1 ⊢
 obtain _ | fu:=fu
 · rw [zX] at F1;cases F1
 rw [zX] at F1
 refine zb (za ?_)
 refine s_lt ?_
 refine zf (zd (zb ?_))
 refine zm F1 ?_ ?_<;>intro C3 F2
 refine zM 0 (fun B4=>?_)
 refine zi (zd (zb (zl (zb (za ?_)))))
 refine s_mv ?_
 refine s_as ?_
 refine zf (zd (zb (za ?_)))
 iterate 3 refine s_mv ?_
 obtain ⟨v5,V5,F3⟩:=zc F2
 refine zK Hit.row V5 (Hit.row_eq _) yE42 ?_
 refine zam yA48 yS48 ?_
 obtain ⟨v6,V6,F4⟩:=zc F3
 refine zY [(9000,9000)] [] _ _ (m_impl_hitAt_1_ok fu _ _ _ V6) ?_
 refine zf (zd ?_)
 refine zm F4 ?_ ?_<;>intro C7 F5
 refine zb (za ?_)
 refine s_mv ?_
 refine s_as ?_
 refine zf (zd (zh (zj (zg (zw (zj (zg (zn ?_))))))))
 cases F5
 exact zk _ [] Tryz.results104
 refine zi (zW (zd (za ?_)))
 refine zJ (zas C3 B4 hn_g1) ?_
 refine s_mv ?_
 refine zf ?_
 exact s_rn (fu,(g1+1)) ⟨by first | omega | (dsimp only;omega),F5,by first | omega | (dsimp only;omega)⟩
 refine zy (zq (zo (zr (zd (zb (za ?_))))))
 refine s_as ?_
 refine zf (zd (zh (zn ?_)))
 cases F2
 exact zk _ [] Tryz.results104
end Go.Abs
