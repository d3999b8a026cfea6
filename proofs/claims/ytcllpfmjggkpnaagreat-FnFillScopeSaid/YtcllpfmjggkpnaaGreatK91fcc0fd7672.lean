/- A part of the proof: what the functions that the law calls answer, as pure values. -/
import Derived.Test.YtcllpfmjggkpnaaGreatKcd1b73107f87
import Derived.Test.YtcllpfmjggkpnaaGreatKf13d1da57272
import Derived.Test.YtcllpfmjggkpnaaGreatKf8320a019dd3
import Derived.Test.YtcllpfmjggkpnaaGreatKa8136476e481
import Derived.Test.YtcllpfmjggkpnaaGreatK1df75f79e59f
set_option linter.unusedSimpArgs false
set_option linter.unusedVariables false
set_option maxRecDepth 100000
set_option maxHeartbeats 4000000
namespace Go.Abs
open Go.Proofs
theorem m_impl_formOk_all (fuel:Nat):zfF fuel:=by
 induction fuel using Nat.strongRecOn with
 | _ N ih =>
   cases N with
   | zero=>exact (by intro x1 x2 o1 r h;rw [zec] at h;cases h)
   | succ fu=>exact m_impl_formOk_st fu (fun k hk=>(ih k (by omega)))
theorem m_impl_formOk_ok (fuel:Nat):zfF fuel:=(m_impl_formOk_all fuel)
def m_impl_FormValid_AC (fuel:Nat):Prop:=∀ (x1:Form) (r:Bool),zbX fuel x1=some r→AC Tryz.prog 20 [.ag [.t (.sc (.int .i64 x1.kind)),.t (.sc (.str x1.name)),.t (.sc (.int .i64 x1.n)),.t (.sl (x1.scopes.map rI)),.t (.sl (x1.kids.map Form.row))]] noOb (.t (.sc (.bool r))) noOb
theorem zdv (fuel:Nat):m_impl_FormValid_AC fuel:=by
 intro x1 r F0
 unfold zbX at F0
 refine AC_i [.t (.sc (.bool r))] Tryz.func20 rfl Tryz.ntmps20 ?_
 intro C hC
 refine zb (za ?_)
 refine za9 ?_
 refine s_as ?_
 refine zf (zd (zb (za ?_)))
 refine zR yZ3 ?_
 refine zac yS3 ?_
 refine zf (zd (zb (za ?_)))
 refine zJ yA27 yS27 ?_
 obtain ⟨v1,V1,F1⟩:=zc F0
 refine zU [(9000,3)] [] _ _ (m_impl_formOk_ok fuel _ _ _ _ V1) ?_
 refine s_as ?_
 refine zf (zd (zh (zn ?_)))
 cases F1
 exact zl [] [] Tryz.results20
def m_impl_isName_AC (fuel:Nat):Prop:=∀ (x1:Form) (r:Bool),zf8 fuel x1=some r→AC Tryz.prog 80 [.ag [.t (.sc (.int .i64 x1.kind)),.t (.sc (.str x1.name)),.t (.sc (.int .i64 x1.n)),.t (.sl (x1.scopes.map rI)),.t (.sl (x1.kids.map Form.row))]] noOb (.t (.sc (.bool r))) noOb
theorem m_impl_isName_ok (fuel:Nat):m_impl_isName_AC fuel:=by
 intro x1 r F0
 unfold zf8 at F0
 refine AC_i [.t (.sc (.bool r))] Tryz.func80 rfl Tryz.ntmps80 ?_
 intro C hC
 refine zb (za ?_)
 refine za9 ?_
 refine s_as ?_
 refine zf (zd (zb (za ?_)))
 refine s_fa zcT ?_
 refine zu yA3 ?_
 refine s_eq ?_
 refine s_mv ?_
 refine zo _ 6 F0 ?_ ?_<;>intro C1 F1
 refine zJ yA27 yS27 ?_
 obtain ⟨v2,V2,F2⟩:=zc F1
 refine zx [] (zdv fuel _ _ V2) ?_
 refine zz ?_
 refine s_as ?_
 refine zf (zd (zh (zn ?_)))
 cases F2
 exact zl [] [] Tryz.results80
 refine r_no rfl (r_no rfl ?_)
 refine zB ?_
 refine s_as ?_
 refine zf (zd (zh (zn ?_)))
 cases F1
 exact zl [] [] Tryz.results80
def zdM (fuel:Nat):Prop:=∀ (x1:Form) (x2:Form) (r:Bool),zaz fuel x1 x2=some r→AC Tryz.prog 11 [.ag [.t (.sc (.int .i64 x1.kind)),.t (.sc (.str x1.name)),.t (.sc (.int .i64 x1.n)),.t (.sl (x1.scopes.map rI)),.t (.sl (x1.kids.map Form.row))],.ag [.t (.sc (.int .i64 x2.kind)),.t (.sc (.str x2.name)),.t (.sc (.int .i64 x2.n)),.t (.sl (x2.scopes.map rI)),.t (.sl (x2.kids.map Form.row))]] noOb (.t (.sc (.bool r))) noOb
def za6 (fuel:Nat):Prop:=∀ (x1:(List Form)) (x2:(List Form)) (r:Bool),zaR fuel x1 x2=some r→AC Tryz.prog 35 [.t (.sl (x1.map Form.row)),.t (.sl (x2.map Form.row)),.fn 11 []] noOb (.t (.sc (.bool r))) noOb
theorem m_impl_FormSame_st (fu:Nat) (ih_m_impl_FormSame:∀ k,k≤fu→zdM k) (ih_m_slices_EqualFunc_Form_FormSame:∀ k,k≤fu→za6 k):zdM (fu+1):=by
 intro x1 x2 r F0
 rw [zaz] at F0
 refine AC_i [.t (.sc (.bool r))] Tryz.func11 rfl Tryz.ntmps11 ?_
 intro C hC
 refine zb (za ?_)
 refine za9 ?_
 refine za9 ?_
 refine s_as ?_
 refine zf (zd (zb (za ?_)))
 refine s_fa zcT ?_
 refine zu yA3 ?_
 refine s_fa zcT ?_
 refine zu yA3 ?_
 refine s_eq ?_
 refine s_mv ?_
 refine zo _ 10 F0 ?_ ?_<;>intro C1 F1
 refine s_fa zdp ?_
 refine zu yA9 ?_
 refine s_fa zdp ?_
 refine zu yA9 ?_
 refine zht ?_
 refine zz ?_
 refine s_mv ?_
 refine zo _ 17 F1 ?_ ?_<;>intro C2 F2
 refine s_fa zgd ?_
 refine zu yA3 ?_
 refine s_fa zgd ?_
 refine zu yA3 ?_
 refine s_eq ?_
 refine zz ?_
 refine s_mv ?_
 refine zo _ 24 F2 ?_ ?_<;>intro C3 F3
 refine s_fa zeR ?_
 refine zu yA24 ?_
 refine s_fa zeR ?_
 refine zu yA24 ?_
 obtain ⟨v4,V4,F4⟩:=zc F3
 refine zx [] (m_slices_Equal_int_ok fu _ _ _ V4) ?_
 refine zz ?_
 refine s_mv ?_
 refine zo _ 31 F4 ?_ ?_<;>intro C5 F5
 refine s_fa zH ?_
 refine zu yA25 ?_
 refine s_fa zH ?_
 refine zu yA25 ?_
 obtain ⟨v6,V6,F6⟩:=zc F5
 refine zx [] (ih_m_slices_EqualFunc_Form_FormSame fu (by omega) _ _ _ V6) ?_
 refine zz ?_
 refine s_as ?_
 refine zf (zd (zh (zn ?_)))
 cases F6
 exact zl [] [] Tryz.results11
 iterate 5 refine r_no rfl ?_
 refine zB ?_
 refine s_as ?_
 refine zf (zd (zh (zn ?_)))
 cases F5
 exact zl [] [] Tryz.results11
 iterate 5 refine r_no rfl ?_
 refine zB ?_
 refine s_mv ?_
 iterate 5 refine r_no rfl ?_
 refine zB ?_
 refine s_as ?_
 refine zf (zd (zh (zn ?_)))
 cases F3
 exact zl [] [] Tryz.results11
 iterate 5 refine r_no rfl ?_
 refine zB ?_
 refine s_mv ?_
 iterate 5 refine r_no rfl ?_
 refine zB ?_
 refine s_mv ?_
 iterate 5 refine r_no rfl ?_
 refine zB ?_
 refine s_as ?_
 refine zf (zd (zh (zn ?_)))
 cases F2
 exact zl [] [] Tryz.results11
 iterate 5 refine r_no rfl ?_
 refine zB ?_
 refine s_mv ?_
 iterate 5 refine r_no rfl ?_
 refine zB ?_
 refine s_mv ?_
 iterate 5 refine r_no rfl ?_
 refine zB ?_
 refine s_mv ?_
 iterate 5 refine r_no rfl ?_
 refine zB ?_
 refine s_as ?_
 refine zf (zd (zh (zn ?_)))
 cases F1
 exact zl [] [] Tryz.results11
theorem zfM (fu:Nat) (ih_m_impl_FormSame:∀ k,k≤fu→zdM k) (ih_m_slices_EqualFunc_Form_FormSame:∀ k,k≤fu→za6 k):za6 (fu+1):=by
 intro x1 x2 r F0
 rw [zaR] at F0
 refine AC_i [.t (.sc (.bool r))] Tryz.func35 rfl Tryz.ntmps35 ?_
 intro C hC
 refine zb (za ?_)
 refine s_as ?_
 refine zf (zd (zb (zb (za ?_))))
 refine s_mv ?_
 refine zF yU25 ?_
 refine s_mv ?_
 refine zF yU25 ?_
 refine s_ne ?_
 refine zf (zd ?_)
 refine zm F0 ?_ ?_<;>intro C1 F1
 refine zb (za ?_)
 refine s_as ?_
 refine zf (zd (zh (zg (zn ?_))))
 cases F1
 exact zl [] [] Tryz.results35
 refine zi (zd (zb (zb (za ?_))))
 refine s_mv ?_
 refine zF yU25 ?_
 refine s_mv ?_
 refine zf (zd (zk ?_))
 refine zbk (β:=Int) [6,7,8,9,17,18,19,20,21,22,23,24,25,26,27,28,29,30,31] [] [8,9] (fun a=>[(17,.t (.sc (.int .i64 a.2)))]) (fun a=>[]) (fun a=>a.1≤fu∧zaf a.1 x1 x2 a.2=some r∧0≤a.2) (fu,0) ⟨Nat.le_refl _,F1,by simp⟩ ?_
 clear F1
 rintro ⟨fu,g2⟩ ⟨hl3,F2,hn_g2⟩
 dsimp only at hl3 F2 hn_g2 ⊢
 obtain _ | fu:=fu
 · rw [zaf] at F2;cases F2
 rw [zaf] at F2
 refine zb (za ?_)
 refine s_lt ?_
 refine zf (zd (zb ?_))
 refine zm F2 ?_ ?_<;>intro C4 F3
 refine zW 0 (fun B5=>?_)
 refine zi (zd (zb (zk (zb (za ?_)))))
 refine s_mv ?_
 obtain ⟨v6,V6,F4⟩:=zc F3
 refine zN Form.row V6 (Form.row_eq _) yE25 ?_
 refine zas yA27 yS27 ?_
 refine zR yZ27 ?_
 refine s_as ?_
 refine zac yS27 ?_
 refine zf (zd (zb (za ?_)))
 refine s_mv ?_
 refine s_mv ?_
 obtain ⟨v7,V7,F5⟩:=zc F4
 refine zN Form.row V7 (Form.row_eq _) yE25 ?_
 refine zas yA27 yS27 ?_
 refine zR yZ27 ?_
 refine zac yS27 ?_
 refine zf (zd (zb (za ?_)))
 refine s_mv ?_
 refine zJ yA27 yS27 ?_
 refine zJ yA27 yS27 ?_
 obtain ⟨v8,V8,F6⟩:=zc F5
 refine zx [] (ih_m_impl_FormSame fu (by omega) _ _ _ V8) ?_
 refine zbq ?_
 refine zf (zd ?_)
 refine zm F6 ?_ ?_<;>intro C9 F7
 refine zb (za ?_)
 refine s_as ?_
 refine zf (zd (zh (zj (zg (zy (zj (zg (zn ?_))))))))
 cases F7
 exact zl [] [] Tryz.results35
 refine zi (zaa (zd (za ?_)))
 refine zO (zaJ C4 B5 hn_g2) ?_
 refine s_mv ?_
 refine zf ?_
 exact s_rn (fu,(g2+1)) ⟨by first | omega | (dsimp only;omega),F7,by first | omega | (dsimp only;omega)⟩
 refine zA (zq (zp (zr (zd (zb (za ?_))))))
 refine s_as ?_
 refine zf (zd (zh (zn ?_)))
 cases F3
 exact zl [] [] Tryz.results35
theorem m_impl_FormSame_all (fuel:Nat):zdM fuel∧za6 fuel:=by
 induction fuel using Nat.strongRecOn with
 | _ N ih =>
   cases N with
   | zero=>exact ⟨(by intro x1 x2 r h;rw [zaz] at h;cases h),(by intro x1 x2 r h;rw [zaR] at h;cases h)⟩
   | succ fu=>exact ⟨m_impl_FormSame_st fu (fun k hk=>(ih k (by omega)).1) (fun k hk=>(ih k (by omega)).2),zfM fu (fun k hk=>(ih k (by omega)).1) (fun k hk=>(ih k (by omega)).2)⟩
theorem zbL (fuel:Nat):zdM fuel:=(m_impl_FormSame_all fuel).1
def m_impl_named_AC (fuel:Nat):Prop:=∀ (x1:Form) (x2:ByteArray) (r:Bool),zcw fuel x1 x2=some r→AC Tryz.prog 54 [.ag [.t (.sc (.int .i64 x1.kind)),.t (.sc (.str x1.name)),.t (.sc (.int .i64 x1.n)),.t (.sl (x1.scopes.map rI)),.t (.sl (x1.kids.map Form.row))],.t (.sc (.str x2))] noOb (.t (.sc (.bool r))) noOb
theorem zcR (fuel:Nat):m_impl_named_AC fuel:=by
 intro x1 x2 r F0
 unfold zcw at F0
 refine AC_i [.t (.sc (.bool r))] Tryz.func54 rfl Tryz.ntmps54 ?_
 intro C hC
 refine zb (za ?_)
 refine za9 ?_
 refine s_as ?_
 refine zf (zd (zb (za ?_)))
 refine s_fa zcT ?_
 refine zu yA3 ?_
 refine s_eq ?_
 refine s_mv ?_
 refine zo _ 8 F0 ?_ ?_<;>intro C1 F1
 refine s_fa zdp ?_
 refine zu yA9 ?_
 refine s_mv ?_
 refine zht ?_
 refine zz ?_
 refine s_as ?_
 refine zf (zd (zh (zn ?_)))
 cases F1
 exact zl [] [] Tryz.results54
 iterate 4 refine r_no rfl ?_
 refine zB ?_
 refine s_as ?_
 refine zf (zd (zh (zn ?_)))
 cases F1
 exact zl [] [] Tryz.results54
def m_impl_dotsAt_1_AC (fuel:Nat):Prop:=∀ (x1:Form) (r:Bool),ze0 fuel x1=some r→AC Tryz.prog 114 [.ag [.t (.sc (.int .i64 x1.kind)),.t (.sc (.str x1.name)),.t (.sc (.int .i64 x1.n)),.t (.sl (x1.scopes.map rI)),.t (.sl (x1.kids.map Form.row))]] noOb (.t (.sc (.bool r))) noOb
theorem m_impl_dotsAt_1_ok (fuel:Nat):m_impl_dotsAt_1_AC fuel:=by
 intro x1 r F0
 unfold ze0 at F0
 refine AC_i [.t (.sc (.bool r))] Tryz.func114 rfl Tryz.ntmps114 ?_
 intro C hC
 refine zb (za ?_)
 refine za9 ?_
 refine s_as ?_
 refine zf (zd (zb (za ?_)))
 refine zJ yA27 yS27 ?_
 obtain ⟨v1,V1,F1⟩:=zc F0
 refine zx [] (zcR fuel _ _ _ V1) ?_
 refine s_as ?_
 refine zf (zd (zh (zn ?_)))
 cases F1
 exact zl [] [] Tryz.results114
def zfL (fuel:Nat):Prop:=∀ (x1:(List Form)) (r:Int),zbr fuel x1=some r→AC Tryz.prog 113 [.t (.sl (x1.map Form.row)),.fn 114 []] noOb (.t (.sc (.int .i64 r))) noOb
theorem zfK (fuel:Nat):zfL fuel:=by
 intro x1 r F0
 unfold zbr at F0
 refine AC_i [.t (.sc (.int .i64 r))] Tryz.func113 rfl Tryz.ntmps113 ?_
 intro C hC
 refine zb (za ?_)
 refine s_as ?_
 refine zf (zd (zb (zb (za ?_))))
 refine s_mv ?_
 refine zF yU25 ?_
 refine s_mv ?_
 refine zf (zd (zk ?_))
 refine zbk (β:=Int) [4,5,8,9,10,11,12,13,14,15,16,17,18] [] [] (fun a=>[(8,.t (.sc (.int .i64 a.2)))]) (fun a=>[]) (fun a=>a.1≤fuel∧zae a.1 x1 a.2=some r∧0≤a.2) (fuel,0) ⟨Nat.le_refl _,F0,by simp⟩ ?_
 clear F0
 rintro ⟨fu,g1⟩ ⟨hl2,F1,hn_g1⟩
 dsimp only at hl2 F1 hn_g1 ⊢
 obtain _ | fu:=fu
 · rw [zae] at F1;cases F1
 rw [zae] at F1
 refine zb (za ?_)
 refine s_lt ?_
 refine zf (zd (zb ?_))
 refine zm F1 ?_ ?_<;>intro C3 F2
 refine zW 0 (fun B4=>?_)
 refine zi (zd (zb (zk (zb (za ?_)))))
 refine s_mv ?_
 refine s_as ?_
 refine zf (zd (zb (za ?_)))
 iterate 3 refine s_mv ?_
 obtain ⟨v5,V5,F3⟩:=zc F2
 refine zN Form.row V5 (Form.row_eq _) yE25 ?_
 refine zas yA27 yS27 ?_
 obtain ⟨v6,V6,F4⟩:=zc F3
 refine zx [] (m_impl_dotsAt_1_ok fu _ _ V6) ?_
 refine zf (zd ?_)
 refine zm F4 ?_ ?_<;>intro C7 F5
 refine zb (za ?_)
 refine s_mv ?_
 refine s_as ?_
 refine zf (zd (zh (zj (zg (zy (zj (zg (zn ?_))))))))
 cases F5
 exact zl [] [] Tryz.results113
 refine zi (zaa (zd (za ?_)))
 refine zO (zaJ C3 B4 hn_g1) ?_
 refine s_mv ?_
 refine zf ?_
 exact s_rn (fu,(g1+1)) ⟨by first | omega | (dsimp only;omega),F5,by first | omega | (dsimp only;omega)⟩
 refine zA (zq (zp (zr (zd (zb (za ?_))))))
 refine s_as ?_
 refine zf (zd (zh (zn ?_)))
 cases F2
 exact zl [] [] Tryz.results113
def m_impl_dotsAt_AC (fuel:Nat):Prop:=∀ (x1:(List Form)) (r:Int),zgX fuel x1=some r→AC Tryz.prog 62 [.t (.sl (x1.map Form.row))] noOb (.t (.sc (.int .i64 r))) noOb
theorem m_impl_dotsAt_ok (fuel:Nat):m_impl_dotsAt_AC fuel:=by
 intro x1 r F0
 unfold zgX at F0
 refine AC_i [.t (.sc (.int .i64 r))] Tryz.func62 rfl Tryz.ntmps62 ?_
 intro C hC
 refine zb (za ?_)
 refine s_as ?_
 refine zf (zd (zb (za ?_)))
 refine s_mv ?_
 obtain ⟨v1,V1,F1⟩:=zc F0
 refine zx [] (zfK fuel _ _ V1) ?_
 refine s_as ?_
 refine zf (zd (zh (zn ?_)))
 cases F1
 exact zl [] [] Tryz.results62
def zfH (fuel:Nat):Prop:=∀ (x1:Form) (x2:Bool) (r:Bool),zdL fuel x1 x2=some r→AC Tryz.prog 55 [.ag [.t (.sc (.int .i64 x1.kind)),.t (.sc (.str x1.name)),.t (.sc (.int .i64 x1.n)),.t (.sl (x1.scopes.map rI)),.t (.sl (x1.kids.map Form.row))],.t (.sc (.bool x2))] noOb (.t (.sc (.bool r))) noOb
theorem m_impl_dotsOk_st (fu:Nat) (ih_m_impl_dotsOk:∀ k,k≤fu→zfH k):zfH (fu+1):=by
 intro x1 x2 r F0
 rw [zdL] at F0
 refine AC_i [.t (.sc (.bool r))] Tryz.func55 rfl Tryz.ntmps55 ?_
 intro C hC
 refine zb (za ?_)
 refine za9 ?_
 refine s_as ?_
 refine zf (zd (zb (zb (za ?_))))
 refine s_fa zH ?_
 refine zu yA25 ?_
 refine zF yU25 ?_
 refine s_mv ?_
 refine zf (zd (zk ?_))
 refine zbk (β:=Int) [4,5,6,10,11,12,13,14,15,16,17,18,19,20,21,22,23,24,25,26,27,28,29,30,31,32,33,34,35,36,37,38,39,40,41,42,43] [] [6] (fun a=>[(10,.t (.sc (.int .i64 a.2)))]) (fun a=>[]) (fun a=>a.1≤fu∧zbE a.1 x1 x2 a.2=some r∧0≤a.2) (fu,0) ⟨Nat.le_refl _,F0,by simp⟩ ?_
 clear F0
 rintro ⟨fu,g1⟩ ⟨hl2,F1,hn_g1⟩
 dsimp only at hl2 F1 hn_g1 ⊢
 obtain _ | fu:=fu
 · rw [zbE] at F1;cases F1
 rw [zbE] at F1
 refine zb (za ?_)
 refine s_lt ?_
 refine zf (zd (zb ?_))
 refine zm F1 ?_ ?_<;>intro C3 F2
 refine zW 8 (fun B4=>?_)
 refine zi (zd (zb (zk (zb (za ?_)))))
 refine s_mv ?_
 obtain ⟨v5,V5,F3⟩:=zc F2
 refine zN Form.row V5 (Form.row_eq _) yE25 ?_
 refine zas yA27 yS27 ?_
 refine zR yZ27 ?_
 refine s_as ?_
 refine zac yS27 ?_
 refine zf (zd (zb (za ?_)))
 refine zJ yA27 yS27 ?_
 obtain ⟨v6,V6,F4⟩:=zc F3
 refine zx [] (zcR fu _ _ _ V6) ?_
 refine zf (zd ?_)
 refine zm F4 ?_ ?_<;>intro C7 F5
 refine zb (za ?_)
 refine s_mv ?_
 refine s_eq ?_
 refine s_mv ?_
 refine zo _ 19 F5 ?_ ?_<;>intro C8 F6
 iterate 7 refine r_no rfl ?_
 refine zz ?_
 refine s_mv ?_
 iterate 9 refine r_no rfl ?_
 refine zz ?_
 refine zf (zd (zM rfl (zb (za ?_))))
 refine s_as ?_
 refine zf (zd (zh (zj (zg (zy (zj (zg (zn ?_))))))))
 cases F6
 exact zl [] [] Tryz.results55
 refine s_fa zH ?_
 refine zu yA25 ?_
 refine s_mv ?_
 refine zhq rfl ?_
 obtain ⟨v9,V9,F7⟩:=zc F6
 refine zN Form.row V9 (Form.row_eq _) yE25 ?_
 refine zas yA27 yS27 ?_
 obtain ⟨v10,V10,F8⟩:=zc F7
 refine zx [] (zcR fu _ _ _ V10) ?_
 refine zB ?_
 refine s_mv ?_
 refine zo _ 28 F8 ?_ ?_<;>intro C11 F9
 iterate 9 refine r_no rfl ?_
 refine zz ?_
 refine zf (zd (zM rfl (zb (za ?_))))
 refine s_as ?_
 refine zf (zd (zh (zj (zg (zy (zj (zg (zn ?_))))))))
 cases F9
 exact zl [] [] Tryz.results55
 refine s_mv ?_
 refine s_mv ?_
 refine zo _ 30 F9 ?_ ?_<;>intro C12 F10
 refine s_fa zH ?_
 refine zu yA25 ?_
 refine s_mv ?_
 obtain ⟨v13,V13,F11⟩:=zc F10
 refine s_sl01 Form.row (fun y=>Form.row_len y) V13 yU25 yE25 ?_
 obtain ⟨v14,V14,F12⟩:=zc F11
 refine zx [] (m_impl_dotsAt_ok fu _ _ V14) ?_
 refine s_ge ?_
 refine zz ?_
 refine zB ?_
 refine zf (zd ?_)
 refine zm F12 ?_ ?_<;>intro C15 F13
 refine zb (za ?_)
 refine s_as ?_
 refine zf (zd (zh (zj (zg (zy (zj (zg (zn ?_))))))))
 cases F13
 exact zl [] [] Tryz.results55
 refine zi (zaa (zd (za ?_)))
 refine zO (zaJ C3 B4 hn_g1) ?_
 refine s_mv ?_
 refine zf ?_
 exact s_rn (fu,(g1+1)) ⟨by first | omega | (dsimp only;omega),F13,by first | omega | (dsimp only;omega)⟩
 iterate 6 refine r_no rfl ?_
 refine zB ?_
 refine zB ?_
 refine zf (zd (zaS rfl (zi (zaa (zd (za ?_))))))
 refine zO (zaJ C3 B4 hn_g1) ?_
 refine s_mv ?_
 refine zf ?_
 exact s_rn (fu,(g1+1)) ⟨by first | omega | (dsimp only;omega),F10,by first | omega | (dsimp only;omega)⟩
 refine zb (za ?_)
 refine zJ yA27 yS27 ?_
 refine s_mv ?_
 obtain ⟨v16,V16,F6⟩:=zc F5
 refine zx [] (ih_m_impl_dotsOk fu (by omega) _ _ _ V16) ?_
 refine zbq ?_
 refine zf (zd ?_)
 refine zm F6 ?_ ?_<;>intro C17 F7
 refine zb (za ?_)
 refine s_as ?_
 refine zf (zd (zh (zj (zg (zy (zj (zg (zn ?_))))))))
 cases F7
 exact zl [] [] Tryz.results55
 refine zi (zaa (zd (za ?_)))
 refine zO (zaJ C3 B4 hn_g1) ?_
 refine s_mv ?_
 refine zf ?_
 exact s_rn (fu,(g1+1)) ⟨by first | omega | (dsimp only;omega),F7,by first | omega | (dsimp only;omega)⟩
 refine zA (zq (zp (zr (zd (zb (za ?_))))))
 refine s_as ?_
 refine zf (zd (zh (zn ?_)))
 cases F2
 exact zl [] [] Tryz.results55
theorem m_impl_dotsOk_all (fuel:Nat):zfH fuel:=by
 induction fuel using Nat.strongRecOn with
 | _ N ih =>
   cases N with
   | zero=>exact (by intro x1 x2 r h;rw [zdL] at h;cases h)
   | succ fu=>exact m_impl_dotsOk_st fu (fun k hk=>(ih k (by omega)))
theorem m_impl_dotsOk_ok (fuel:Nat):zfH fuel:=(m_impl_dotsOk_all fuel)
def m_slices_Clone_int_AC (fuel:Nat):Prop:=∀ (x1:(List Int)) (r:(List Int)),zcW fuel x1=some r→AC Tryz.prog 112 [.t (.sl (x1.map rI))] (objs []) (.ar 9200) (objs [(9200,.arr (r.map rI) 3 true)])
theorem zgz (fuel:Nat):m_slices_Clone_int_AC fuel:=by
 intro x1 r F0
 unfold zcW at F0
 refine AC_i [.ar 9200] Tryz.func112 rfl Tryz.ntmps112 ?_
 intro C hC
 refine awp_nil 0 (fun hz=>?_) ?_
 replace hz:=List.map_eq_nil_iff.mp hz;subst hz;obtain ⟨_,F1⟩:=zab F0
 refine zb (za ?_)
 refine s_as ?_
 refine zf (zd (zb (zb (za ?_))))
 refine s_mv ?_
 refine s_nil yU24 ?_
 refine zf (zd (zM rfl ?_))
 refine zgB 0 ?_
 refine zgB 3 ?_
 refine zb (za ?_)
 refine s_as ?_
 refine zf (zd ?_)
 refine awp_own 2 9200 3 yI3.choose_spec ?_
 refine zh (zg (zn ?_))
 cases F1
 exact zl _ [] Tryz.results112
 refine zb (za ?_)
 refine s_as ?_
 refine zf (zd (zb (zb (za ?_))))
 refine s_mv ?_
 refine s_nil yU24 ?_
 refine zf (zd (zaS rfl ?_))
 refine zgB 0 ?_
 refine zgB 3 ?_
 refine zi (zd (zb (za ?_)))
 refine s_bs rI ([]:List Int) yP24 yR3 ?_
 refine s_mv ?_
 obtain ⟨hk1,F1⟩:=zab F0
 refine zd4 rI (fun _=>rfl) hk1 yP24 ?_
 refine s_as ?_
 refine zf (zd ?_)
 refine zdl 2 7 9200 (by conv=>lhs;whnf) (by conv=>lhs;whnf) rfl ?_
 refine zh (zn ?_)
 cases F1
 exact zl _ [] Tryz.results112
def zeP (fuel:Nat):Prop:=∀ (x1:Form) (r:Form),zbz fuel x1=some r→AC Tryz.prog 60 [.ag [.t (.sc (.int .i64 x1.kind)),.t (.sc (.str x1.name)),.t (.sc (.int .i64 x1.n)),.t (.sl (x1.scopes.map rI)),.t (.sl (x1.kids.map Form.row))]] noOb (.ag [.t (.sc (.int .i64 r.kind)),.t (.sc (.str r.name)),.t (.sc (.int .i64 r.n)),.t (.sl (r.scopes.map rI)),.t (.sl (r.kids.map Form.row))]) noOb
theorem m_impl_copyForm_st (fu:Nat) (ih_m_impl_copyForm:∀ k,k≤fu→zeP k):zeP (fu+1):=by
 intro x1 r F0
 rw [zbz] at F0
 refine AC_i [.ag [.t (.sc (.int .i64 r.kind)),.t (.sc (.str r.name)),.t (.sc (.int .i64 r.n)),.t (.sl (r.scopes.map rI)),.t (.sl (r.kids.map Form.row))]] Tryz.func60 rfl Tryz.ntmps60 ?_
 intro C hC
 refine zb (za ?_)
 refine za9 ?_
 refine zR yZ27 ?_
 refine zf (zd (zb ?_))
 refine z7 yMix (by kernel_rfl) ?_
 refine s_fa zcT ?_
 refine zu yA3 ?_
 refine s_fa zdp ?_
 refine zu yA9 ?_
 refine s_fa zgd ?_
 refine zu yA3 ?_
 refine s_fa zeR ?_
 refine zu yA24 ?_
 obtain ⟨v1,V1,F1⟩:=zc F0
 refine zU [(9200,2014)] [] _ _ (zgz fu _ _ V1) ?_
 refine zeJ yZ27 yL27 ?_
 refine zR yZ27 ?_
 refine zac yS27 ?_
 refine zar (by kernel_rfl) ?_
 refine zd (zb (zb (za ?_)))
 refine s_fa zH ?_
 refine zu yA25 ?_
 refine zF yU25 ?_
 refine s_mv ?_
 refine zf (zd (zk ?_))
 refine zgZ 3 5020 27 [.t (.sc (.int .i64 x1.kind)),.t (.sc (.str x1.name)),.t (.sc (.int .i64 x1.n)),.ar 2014,.ar 5020] yI27.choose_spec ?_
 refine zap [5,19,20,21,22,23,24,25,26,27,28,29,30] [3,5020] [5,27,28] [5020] (fun a:Nat × Int × (List Form)=>a.1) (fun a:Nat × Int × (List Form)=>[(19,.t (.sc (.int .i64 a.2.1)))]) (fun a:Nat × Int × (List Form)=>[(3,.box [.t (.sc (.int .i64 x1.kind)),.t (.sc (.str x1.name)),.t (.sc (.int .i64 x1.n)),.ar 2014,.ar 5020]),(5020,.arr (a.2.2.map Form.row) 27 true)]) (fun a:Nat × Int × (List Form)=>a.1≤fu∧zcf a.1 x1 v1 a.2.1 a.2.2=some r∧0≤a.2.1) (fu,0,([]:List Form)) ⟨Nat.le_refl _,F1,by simp⟩ (by rfl) (by rfl) (fun _=>rfl) (zG (by conv=>lhs;whnf) (by rfl) za7) (zT (by conv=>lhs;whnf) (by rfl) (zT (by conv=>lhs;whnf) (by rfl) zaW)) (zb7 hC rfl) (by repeat (first | exact zai rfl | refine zat rfl ?_ | refine zX rfl ?_)) (by repeat (first | exact zaL | exact zam rfl | refine zau rfl ?_ | refine zY rfl ?_)) ?_
 clear F1
 rintro ⟨fu,g2,g3⟩ ⟨hl4,F2,hn_g2⟩
 dsimp only at hl4 F2 hn_g2 ⊢
 obtain _ | fu:=fu
 · rw [zcf] at F2;cases F2
 rw [zcf] at F2
 refine zb (za ?_)
 refine s_lt ?_
 refine zf (zd (zb ?_))
 refine zm F2 ?_ ?_<;>intro C5 F3
 refine zW 17 (fun B6=>?_)
 refine zi (zd (zb (zk (zb (za ?_)))))
 obtain ⟨v7,V7,F4⟩:=zc F3
 refine zN Form.row V7 (Form.row_eq _) yE25 ?_
 refine zas yA27 yS27 ?_
 refine zR yZ27 ?_
 refine zac yS27 ?_
 refine zf (zd ?_)
 refine z7 yMix (by kernel_rfl) ?_
 refine s_fa zH ?_
 refine zu yA25 ?_
 refine zJ yA27 yS27 ?_
 obtain ⟨v8,V8,F5⟩:=zc F4
 refine zx [] (ih_m_impl_copyForm fu (by omega) _ _ V8) ?_
 refine s_bs Form.row [v8] yP25 yR27 ?_
 obtain ⟨hk9,F6⟩:=zab F5
 refine zd4 Form.row (fun y=>Form.row_len y) hk9 yP25 ?_
 refine s_fa zH ?_
 refine zgO yS25 ?_
 refine zar (by kernel_rfl) ?_
 refine zaa (zd (za ?_))
 refine zO (zaJ C5 B6 hn_g2) ?_
 refine s_mv ?_
 refine zf ?_
 exact s_rn (fu,(g2+1),(g3++[v8])) ⟨by first | omega | (dsimp only;omega),F6,by first | omega | (dsimp only;omega)⟩ [(5020,28)]
 refine zA (zq (zp (zr (zd (zb (za ?_))))))
 refine zJ yA27 yS27 ?_
 refine zac yS27 ?_
 refine zf (zd (zh (zn ?_)))
 cases F3
 exact zI [] [2014,5020] (by rw [Tryz.results60];exact (zZ (by conv=>lhs;whnf) (by conv=>lhs;whnf) yA27 yS27 rfl zP))
theorem m_impl_copyForm_all (fuel:Nat):zeP fuel:=by
 induction fuel using Nat.strongRecOn with
 | _ N ih =>
   cases N with
   | zero=>exact (by intro x1 r h;rw [zbz] at h;cases h)
   | succ fu=>exact m_impl_copyForm_st fu (fun k hk=>(ih k (by omega)))
theorem zf9 (fuel:Nat):zeP fuel:=(m_impl_copyForm_all fuel)
def m_spec_l1Ints_AC (fuel:Nat):Prop:=∀ (x1:(List Int)) (x2:(List Int)) (r:Bool),zfc fuel x1 x2=some r→AC Tryz.prog 65 [.t (.sl (x1.map rI)),.t (.sl (x2.map rI))] noOb (.t (.sc (.bool r))) noOb
theorem m_spec_l1Ints_ok (fuel:Nat):m_spec_l1Ints_AC fuel:=by
 intro x1 x2 r F0
 unfold zfc at F0
 refine AC_i [.t (.sc (.bool r))] Tryz.func65 rfl Tryz.ntmps65 ?_
 intro C hC
 refine zb (za ?_)
 refine s_as ?_
 refine zf (zd (zb (zb (za ?_))))
 refine s_mv ?_
 refine zF yU24 ?_
 refine s_mv ?_
 refine zF yU24 ?_
 refine s_ne ?_
 refine zf (zd ?_)
 refine zm F0 ?_ ?_<;>intro C1 F1
 refine zb (za ?_)
 refine s_as ?_
 refine zf (zd (zh (zg (zn ?_))))
 cases F1
 exact zl [] [] Tryz.results65
 refine zi (zd (zb (zb (za ?_))))
 refine s_as ?_
 refine zf (zd (zk ?_))
 refine zbk (β:=Int) [4,5,11,12,13,14,15,16,17,18,19,20,21,22,23,24,25] [] [] (fun a=>[(5,.t (.sc (.int .i64 a.2)))]) (fun a=>[]) (fun a=>a.1≤fuel∧zc3 a.1 x1 x2 a.2=some r∧0≤a.2) (fuel,0) ⟨Nat.le_refl _,F1,by simp⟩ ?_
 clear F1
 rintro ⟨fu,g2⟩ ⟨hl3,F2,hn_g2⟩
 dsimp only at hl3 F2 hn_g2 ⊢
 obtain _ | fu:=fu
 · rw [zc3] at F2;cases F2
 rw [zc3] at F2
 refine zb (zb (za ?_))
 refine s_mv ?_
 refine s_mv ?_
 refine zF yU24 ?_
 refine s_lt ?_
 refine zf (zd ?_)
 refine zm F2 ?_ ?_<;>intro C4 F3
 refine zW 0 (fun B5=>?_)
 refine zi (zd (zb (zk (zb ?_))))
 refine z7 yMix (by kernel_rfl) ?_
 refine s_mv ?_
 refine s_mv ?_
 obtain ⟨v6,V6,F4⟩:=zc F3
 refine zN rI V6 rfl yE24 ?_
 refine zu yA3 ?_
 refine s_mv ?_
 refine s_mv ?_
 obtain ⟨v7,V7,F5⟩:=zc F4
 refine zN rI V7 rfl yE24 ?_
 refine zu yA3 ?_
 refine s_ne ?_
 refine zar (by kernel_rfl) ?_
 refine zd ?_
 refine zm F5 ?_ ?_<;>intro C8 F6
 refine zb (za ?_)
 refine s_as ?_
 refine zf (zd (zh (zj (zg (zy (zj (zg (zn ?_))))))))
 cases F6
 exact zl [] [] Tryz.results65
 refine zi (zaa (zd (za ?_)))
 refine s_mv ?_
 refine zO (zaJ C4 B5 hn_g2) ?_
 refine s_as ?_
 refine zf ?_
 exact s_rn (fu,(g2+1)) ⟨by first | omega | (dsimp only;omega),F6,by first | omega | (dsimp only;omega)⟩
 refine zA (zq (zp (zr (zd (zb (za ?_))))))
 refine s_as ?_
 refine zf (zd (zh (zn ?_)))
 cases F3
 exact zl [] [] Tryz.results65
def m_spec_BindsValid_AC (fuel:Nat):Prop:=∀ (x1:(List Bind)) (r:Bool),zdn fuel x1=some r→AC Tryz.prog 22 [.t (.sl (x1.map Bind.row))] noOb (.t (.sc (.bool r))) noOb
theorem zgM (fuel:Nat):m_spec_BindsValid_AC fuel:=by
 intro x1 r F0
 unfold zdn at F0
 refine AC_i [.t (.sc (.bool r))] Tryz.func22 rfl Tryz.ntmps22 ?_
 intro C hC
 refine zb (za ?_)
 refine s_as ?_
 refine zf (zd (zb (zb (za ?_))))
 refine s_as ?_
 refine zf (zd (zk ?_))
 refine zbk (β:=Int) [2,3,4,5,6,7,8,9,10,11,12,13,14,15,16,17,18,19,20,21,22,23,24,25,26,27,28,29,30,31,32,33,34,35,36,37,38,39,40,41,42,43,44,45,46,47,48,49,50,51,52,53,54,55,56,57,58,59,60,61,62,63,64,65,66,67,68,69,70,71,72,73,74,75] [] [] (fun a=>[(2,.t (.sc (.bool false))),(3,.t (.sc (.int .i64 a.2)))]) (fun a=>[]) (fun a=>a.1≤fuel∧zbg a.1 x1 a.2=some r) (fuel,0) ⟨Nat.le_refl _,F0⟩ ?_
 clear F0
 rintro ⟨fu,g1⟩ ⟨hl2,F1⟩
 dsimp only at hl2 F1 ⊢
 obtain _ | fu:=fu
 · rw [zbg] at F1;cases F1
 rw [zbg] at F1
 refine zb ?_
 refine zbj (α:=Nat × Bool) [5,6,7,8,9,10,11,12] [] [] (fun a=>[(12,.t (.sc (.bool a.2)))]) (fun a=>[]) (fun a=>a.1≤fu∧zbi a.1 x1 g1 a.2=some r) ?_ ?_
 refine za ?_
 refine s_mv ?_
 refine s_mv ?_
 refine zF yU23 ?_
 refine s_lt ?_
 refine s_mv ?_
 refine zo _ 9 F1 ?_ ?_<;>intro C3 F2
 refine s_mv ?_
 refine s_le ?_
 refine zz ?_
 refine zf ?_
 exact s_jn (fu,(decide (g1≤60))) ⟨by first | omega | (dsimp only;omega),F2⟩
 refine r_no rfl (r_no rfl ?_)
 refine zB ?_
 refine zf ?_
 exact s_jn (fu,false) ⟨by first | omega | (dsimp only;omega),F2⟩
 clear F1
 rintro ⟨fu,g4⟩ ⟨hl5,F2⟩
 dsimp only at hl5 F2 ⊢
 obtain _ | fu:=fu
 · rw [zbi] at F2;cases F2
 rw [zbi] at F2
 refine zm F2 ?_ ?_<;>intro C6 F3
 refine zi (zd (zb (zk (zb ?_))))
 refine zbj (α:=Nat × Bool) [15,16,17,18,19,20,21,22,23,24,25,26,27,28,29,30,31,32,33,34,35,36,37,38,39,40,41,42,43,44,45,46] [] [] (fun a=>[(46,.t (.sc (.bool a.2)))]) (fun a=>[]) (fun a=>a.1≤fu∧zaK a.1 x1 g1 a.2=some r) ?_ ?_
 refine za ?_
 refine s_mv ?_
 refine s_mv ?_
 obtain ⟨v7,V7,F4⟩:=zc F3
 refine zN Bind.row V7 (Bind.row_eq _) yE23 ?_
 refine s_fa yF50_0 ?_
 refine zu yA9 ?_
 obtain ⟨v8,V8,F5⟩:=zc F4
 refine zx [] (zg1 fu _ _ V8) ?_
 refine zbq ?_
 refine s_mv ?_
 refine zo _ 22 F5 ?_ ?_<;>intro C9 F6
 iterate 7 refine r_no rfl ?_
 refine zz ?_
 refine s_mv ?_
 iterate 6 refine r_no rfl ?_
 refine zz ?_
 refine s_mv ?_
 iterate 6 refine r_no rfl ?_
 refine zz ?_
 refine zf ?_
 exact s_jn (fu,true) ⟨by first | omega | (dsimp only;omega),F6⟩
 refine s_mv ?_
 refine s_mv ?_
 obtain ⟨v10,V10,F7⟩:=zc F6
 refine zN Bind.row V10 (Bind.row_eq _) yE23 ?_
 refine s_fa yF50_1 ?_
 refine zu yA24 ?_
 obtain ⟨v11,V11,F8⟩:=zc F7
 refine zx [] (zhf fu _ _ V11) ?_
 refine zbq ?_
 refine zB ?_
 refine s_mv ?_
 refine zo _ 31 F8 ?_ ?_<;>intro C12 F9
 iterate 6 refine r_no rfl ?_
 refine zz ?_
 refine s_mv ?_
 iterate 6 refine r_no rfl ?_
 refine zz ?_
 refine zf ?_
 exact s_jn (fu,true) ⟨by first | omega | (dsimp only;omega),F9⟩
 refine s_mv ?_
 refine s_mv ?_
 obtain ⟨v13,V13,F10⟩:=zc F9
 refine zN Bind.row V13 (Bind.row_eq _) yE23 ?_
 refine s_fa yF50_2 ?_
 refine zu yA3 ?_
 refine s_lt ?_
 refine zB ?_
 refine s_mv ?_
 refine zo _ 39 F10 ?_ ?_<;>intro C14 F11
 iterate 6 refine r_no rfl ?_
 refine zz ?_
 refine zf ?_
 exact s_jn (fu,true) ⟨by first | omega | (dsimp only;omega),F11⟩
 refine s_mv ?_
 refine s_mv ?_
 obtain ⟨v15,V15,F12⟩:=zc F11
 refine zN Bind.row V15 (Bind.row_eq _) yE23 ?_
 refine s_fa yF50_2 ?_
 refine zu yA3 ?_
 refine s_gt ?_
 refine zB ?_
 refine zf ?_
 exact s_jn (fu,(decide (999 < v15.id))) ⟨by first | omega | (dsimp only;omega),F12⟩
 clear F3
 rintro ⟨fu,g16⟩ ⟨hl17,F4⟩
 dsimp only at hl17 F4 ⊢
 obtain _ | fu:=fu
 · rw [zaK] at F4;cases F4
 rw [zaK] at F4
 refine zm F4 ?_ ?_<;>intro C18 F5
 refine zb (za ?_)
 refine s_as ?_
 refine zf (zd (zh (zg (zj (zg (zy (zj (zg (zn ?_)))))))))
 cases F5
 exact zl [] [] Tryz.results22
 refine zi (zd (zb (za ?_)))
 refine s_as ?_
 refine zf (zd (zk ?_))
 refine zbk (β:=Int) [2,4,47,48,49,50,51,52,53,54,55,56,57,58,59,60,61,62,63,64,65,66,67,68,69,70,71,72,73,74,75] [] [] (fun a=>[(2,.t (.sc (.bool false))),(4,.t (.sc (.int .i64 a.2)))]) (fun a=>[]) (fun a=>a.1≤fu∧zbf a.1 x1 g1 a.2=some r) (fu,0) ⟨Nat.le_refl _,F5⟩ ?_
 clear F5
 rintro ⟨fu,g19⟩ ⟨hl20,F6⟩
 dsimp only at hl20 F6 ⊢
 obtain _ | fu:=fu
 · rw [zbf] at F6;cases F6
 rw [zbf] at F6
 refine zb (zb (za ?_))
 refine s_mv ?_
 refine s_mv ?_
 refine s_lt ?_
 refine zf (zd ?_)
 refine zm F6 ?_ ?_<;>intro C21 F7
 refine zi (zd (zb (zk ?_)))
 refine zbj (α:=Nat × Bool) [52,53,54,55,56,57,58,59,60,61,62,63,64,65,66,67,68,69,70,71,72,73,74,75] [] [] (fun a=>[(75,.t (.sc (.bool a.2)))]) (fun a=>[]) (fun a=>a.1≤fu∧zbh a.1 x1 g1 g19 a.2=some r) ?_ ?_
 refine z7 yMix (by kernel_rfl) ?_
 refine s_mv ?_
 refine s_mv ?_
 obtain ⟨v22,V22,F8⟩:=zc F7
 refine zN Bind.row V22 (Bind.row_eq _) yE23 ?_
 refine s_fa yF50_0 ?_
 refine zu yA9 ?_
 refine s_mv ?_
 refine s_mv ?_
 obtain ⟨v23,V23,F9⟩:=zc F8
 refine zN Bind.row V23 (Bind.row_eq _) yE23 ?_
 refine s_fa yF50_0 ?_
 refine zu yA9 ?_
 refine zht ?_
 refine s_mv ?_
 refine zo _ 63 F9 ?_ ?_<;>intro C24 F10
 refine s_mv ?_
 refine s_mv ?_
 obtain ⟨v25,V25,F11⟩:=zc F10
 refine zN Bind.row V25 (Bind.row_eq _) yE23 ?_
 refine s_fa yF50_1 ?_
 refine zu yA24 ?_
 refine s_mv ?_
 refine s_mv ?_
 obtain ⟨v26,V26,F12⟩:=zc F11
 refine zN Bind.row V26 (Bind.row_eq _) yE23 ?_
 refine s_fa yF50_1 ?_
 refine zu yA24 ?_
 obtain ⟨v27,V27,F13⟩:=zc F12
 refine zx [] (m_spec_l1Ints_ok fu _ _ _ V27) ?_
 refine zz ?_
 refine zar (by kernel_rfl) ?_
 exact s_jn (fu,v27) ⟨by first | omega | (dsimp only;omega),F13⟩
 iterate 11 refine r_no rfl ?_
 refine zB ?_
 refine zar (by kernel_rfl) ?_
 exact s_jn (fu,false) ⟨by first | omega | (dsimp only;omega),F10⟩
 clear F7
 rintro ⟨fu,g28⟩ ⟨hl29,F8⟩
 dsimp only at hl29 F8 ⊢
 obtain _ | fu:=fu
 · rw [zbh] at F8;cases F8
 rw [zbh] at F8
 refine zm F8 ?_ ?_<;>intro C30 F9
 refine zb (za ?_)
 refine s_as ?_
 refine zf (zd (zh (zj (zg (zy (zj (zj (zg (zy (zj (zg (zn ?_))))))))))))
 cases F9
 exact zl [] [] Tryz.results22
 refine zi (zaa (zd (za ?_)))
 refine s_mv ?_
 refine zO rfl ?_
 refine s_as ?_
 refine zf ?_
 exact s_rn (fu,(w64 (g19+1))) ⟨by first | omega | (dsimp only;omega),F9⟩
 refine zA (zq (zp (zr (zaa (zd (za ?_))))))
 refine s_mv ?_
 refine zO rfl ?_
 refine s_as ?_
 refine zf ?_
 exact s_rn (fu,(w64 (g1+1))) ⟨by first | omega | (dsimp only;omega),F7⟩
 refine zA (zq (zp (zr (zd (zb (za ?_))))))
 refine s_mv ?_
 refine zF yU23 ?_
 refine s_le ?_
 refine s_as ?_
 refine zf (zd (zh (zn ?_)))
 cases F3
 exact zl [] [] Tryz.results22
def m_spec_l3Is_AC (fuel:Nat):Prop:=∀ (x1:Form) (r:Bool),zgn fuel x1=some r→AC Tryz.prog 116 [.ag [.t (.sc (.int .i64 x1.kind)),.t (.sc (.str x1.name)),.t (.sc (.int .i64 x1.n)),.t (.sl (x1.scopes.map rI)),.t (.sl (x1.kids.map Form.row))]] noOb (.t (.sc (.bool r))) noOb
theorem m_spec_l3Is_ok (fuel:Nat):m_spec_l3Is_AC fuel:=by
 intro x1 r F0
 unfold zgn at F0
 refine AC_i [.t (.sc (.bool r))] Tryz.func116 rfl Tryz.ntmps116 ?_
 intro C hC
 refine zb (za ?_)
 refine za9 ?_
 refine s_as ?_
 refine zf (zd (zb (za ?_)))
 refine s_fa zcT ?_
 refine zu yA3 ?_
 refine s_eq ?_
 refine s_mv ?_
 refine zo _ 6 F0 ?_ ?_<;>intro C1 F1
 refine zJ yA27 yS27 ?_
 obtain ⟨v2,V2,F2⟩:=zc F1
 refine zx [] (zaQ fuel _ _ V2) ?_
 refine zz ?_
 refine s_as ?_
 refine zf (zd (zh (zn ?_)))
 cases F2
 exact zl [] [] Tryz.results116
 refine r_no rfl (r_no rfl ?_)
 refine zB ?_
 refine s_as ?_
 refine zf (zd (zh (zn ?_)))
 cases F1
 exact zl [] [] Tryz.results116
def zeM (fuel:Nat):Prop:=∀ (x1:Form) (x2:Form) (r:Bool),zav fuel x1 x2=some r→AC Tryz.prog 74 [.ag [.t (.sc (.int .i64 x1.kind)),.t (.sc (.str x1.name)),.t (.sc (.int .i64 x1.n)),.t (.sl (x1.scopes.map rI)),.t (.sl (x1.kids.map Form.row))],.ag [.t (.sc (.int .i64 x2.kind)),.t (.sc (.str x2.name)),.t (.sc (.int .i64 x2.n)),.t (.sl (x2.scopes.map rI)),.t (.sl (x2.kids.map Form.row))]] noOb (.t (.sc (.bool r))) noOb
theorem m_spec_FormSame_st (fu:Nat) (ih_m_spec_FormSame:∀ k,k≤fu→zeM k):zeM (fu+1):=by
 intro x1 x2 r F0
 rw [zav] at F0
 refine AC_i [.t (.sc (.bool r))] Tryz.func74 rfl Tryz.ntmps74 ?_
 intro C hC
 refine zb (za ?_)
 refine za9 ?_
 refine za9 ?_
 refine s_as ?_
 refine zf (zd (zb (zb (za ?_))))
 refine s_fa zcT ?_
 refine zu yA3 ?_
 refine s_fa zcT ?_
 refine zu yA3 ?_
 refine s_ne ?_
 refine s_mv ?_
 refine zo _ 11 F0 ?_ ?_<;>intro C1 F1
 iterate 5 refine r_no rfl ?_
 refine zz ?_
 refine s_mv ?_
 iterate 5 refine r_no rfl ?_
 refine zz ?_
 refine s_mv ?_
 iterate 6 refine r_no rfl ?_
 refine zz ?_
 refine s_mv ?_
 iterate 7 refine r_no rfl ?_
 refine zz ?_
 refine zf (zd (zM rfl (zb (za ?_))))
 refine s_as ?_
 refine zf (zd (zh (zg (zn ?_))))
 cases F1
 exact zl [] [] Tryz.results74
 refine s_fa zdp ?_
 refine zu yA9 ?_
 refine s_fa zdp ?_
 refine zu yA9 ?_
 refine s_neS ?_
 refine zB ?_
 refine s_mv ?_
 refine zo _ 18 F1 ?_ ?_<;>intro C2 F2
 iterate 5 refine r_no rfl ?_
 refine zz ?_
 refine s_mv ?_
 iterate 6 refine r_no rfl ?_
 refine zz ?_
 refine s_mv ?_
 iterate 7 refine r_no rfl ?_
 refine zz ?_
 refine zf (zd (zM rfl (zb (za ?_))))
 refine s_as ?_
 refine zf (zd (zh (zg (zn ?_))))
 cases F2
 exact zl [] [] Tryz.results74
 refine s_fa zgd ?_
 refine zu yA3 ?_
 refine s_fa zgd ?_
 refine zu yA3 ?_
 refine s_ne ?_
 refine zB ?_
 refine s_mv ?_
 refine zo _ 25 F2 ?_ ?_<;>intro C3 F3
 iterate 6 refine r_no rfl ?_
 refine zz ?_
 refine s_mv ?_
 iterate 7 refine r_no rfl ?_
 refine zz ?_
 refine zf (zd (zM rfl (zb (za ?_))))
 refine s_as ?_
 refine zf (zd (zh (zg (zn ?_))))
 cases F3
 exact zl [] [] Tryz.results74
 refine s_fa zeR ?_
 refine zu yA24 ?_
 refine s_fa zeR ?_
 refine zu yA24 ?_
 obtain ⟨v4,V4,F4⟩:=zc F3
 refine zx [] (m_spec_l1Ints_ok fu _ _ _ V4) ?_
 refine zbq ?_
 refine zB ?_
 refine s_mv ?_
 refine zo _ 33 F4 ?_ ?_<;>intro C5 F5
 iterate 7 refine r_no rfl ?_
 refine zz ?_
 refine zf (zd (zM rfl (zb (za ?_))))
 refine s_as ?_
 refine zf (zd (zh (zg (zn ?_))))
 cases F5
 exact zl [] [] Tryz.results74
 refine s_fa zH ?_
 refine zu yA25 ?_
 refine zF yU25 ?_
 refine s_fa zH ?_
 refine zu yA25 ?_
 refine zF yU25 ?_
 refine s_ne ?_
 refine zB ?_
 refine zf (zd ?_)
 refine zm F5 ?_ ?_<;>intro C6 F6
 refine zb (za ?_)
 refine s_as ?_
 refine zf (zd (zh (zg (zn ?_))))
 cases F6
 exact zl [] [] Tryz.results74
 refine zi (zd (zb (zb (za ?_))))
 refine s_as ?_
 refine zf (zd (zk ?_))
 refine zbk (β:=Int) [4,5,42,43,44,45,46,47,48,49,50,51,52,53,54,55,56,57,58,59,60] [] [] (fun a=>[(5,.t (.sc (.int .i64 a.2)))]) (fun a=>[]) (fun a=>a.1≤fu∧zcc a.1 x1 x2 a.2=some r∧0≤a.2) (fu,0) ⟨Nat.le_refl _,F6,by simp⟩ ?_
 clear F6
 rintro ⟨fu,g7⟩ ⟨hl8,F7,hn_g7⟩
 dsimp only at hl8 F7 hn_g7 ⊢
 obtain _ | fu:=fu
 · rw [zcc] at F7;cases F7
 rw [zcc] at F7
 refine zb (zb (za ?_))
 refine s_mv ?_
 refine s_fa zH ?_
 refine zu yA25 ?_
 refine zF yU25 ?_
 refine s_lt ?_
 refine zf (zd ?_)
 refine zm F7 ?_ ?_<;>intro C9 F8
 refine zW 35 (fun B10=>?_)
 refine zi (zd (zb (zk (zb ?_))))
 refine z7 yMix (by kernel_rfl) ?_
 refine s_fa zH ?_
 refine zu yA25 ?_
 refine s_mv ?_
 obtain ⟨v11,V11,F9⟩:=zc F8
 refine zN Form.row V11 (Form.row_eq _) yE25 ?_
 refine zas yA27 yS27 ?_
 refine s_fa zH ?_
 refine zu yA25 ?_
 refine s_mv ?_
 obtain ⟨v12,V12,F10⟩:=zc F9
 refine zN Form.row V12 (Form.row_eq _) yE25 ?_
 refine zas yA27 yS27 ?_
 obtain ⟨v13,V13,F11⟩:=zc F10
 refine zx [] (ih_m_spec_FormSame fu (by omega) _ _ _ V13) ?_
 refine zbq ?_
 refine zar (by kernel_rfl) ?_
 refine zd ?_
 refine zm F11 ?_ ?_<;>intro C14 F12
 refine zb (za ?_)
 refine s_as ?_
 refine zf (zd (zh (zj (zg (zy (zj (zg (zn ?_))))))))
 cases F12
 exact zl [] [] Tryz.results74
 refine zi (zaa (zd (za ?_)))
 refine s_mv ?_
 refine zO (zaJ C9 B10 hn_g7) ?_
 refine s_as ?_
 refine zf ?_
 exact s_rn (fu,(g7+1)) ⟨by first | omega | (dsimp only;omega),F12,by first | omega | (dsimp only;omega)⟩
 refine zA (zq (zp (zr (zd (zb (za ?_))))))
 refine s_as ?_
 refine zf (zd (zh (zn ?_)))
 cases F8
 exact zl [] [] Tryz.results74
end Go.Abs
