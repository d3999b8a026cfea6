/- A part of the proof: what the functions that the law calls answer, as pure values. -/
import Derived.Test.YtcebadpiebamdaaGreatK006dda84d553
import Derived.Test.YtcebadpiebamdaaGreatK863b9396a6d1
import Derived.Test.YtcebadpiebamdaaGreatKe458358afcd7
import Derived.Test.YtcebadpiebamdaaGreatK0c09c3f6594f
set_option linter.unusedSimpArgs false
set_option linter.unusedVariables false
set_option maxRecDepth 100000
set_option maxHeartbeats 4000000
namespace Go.Abs
open Go.Proofs
def zd7 (fuel:Nat):Prop:=∀ (x1:(List Bind)) (o1:Bind) (r:Bool),zaC fuel x1 o1=some r→AC Tryz.prog 95 [.t (.sl (x1.map Bind.row)),.fn 96 [.rf 9000 0]] (objs [(9000,.box [.t (.sc (.str o1.name)),.t (.sl (o1.scopes.map rI)),.t (.sc (.int .i64 o1.id))])]) (.t (.sc (.bool r))) (objs [(9000,.box [.t (.sc (.str o1.name)),.t (.sl (o1.scopes.map rI)),.t (.sc (.int .i64 o1.id))])])
theorem zd6 (fuel:Nat):zd7 fuel:=by
 intro x1 o1 r F0
 unfold zaC at F0
 refine AC_i [.t (.sc (.bool r))] Tryz.func95 rfl Tryz.ntmps95 ?_
 intro C hC
 refine zb (za ?_)
 refine s_as ?_
 refine zf (zd (zb (za ?_)))
 refine s_mv ?_
 refine s_mv ?_
 obtain ⟨v1,V1,F1⟩:=zc F0
 refine zT [(9000,9000)] [] _ _ (zes fuel _ _ _ V1) ?_
 refine s_ge ?_
 refine s_as ?_
 refine zf (zd (zh (zo ?_)))
 cases F1
 exact zk _ [] Tryz.results95
def m_impl_BindsValid_AC (fuel:Nat):Prop:=∀ (x1:(List Bind)) (r:Bool),zcp fuel x1=some r→AC Tryz.prog 48 [.t (.sl (x1.map Bind.row))] noOb (.t (.sc (.bool r))) noOb
theorem zdz (fuel:Nat):m_impl_BindsValid_AC fuel:=by
 intro x1 r F0
 unfold zcp at F0
 refine AC_i [.t (.sc (.bool r))] Tryz.func48 rfl Tryz.ntmps48 ?_
 intro C hC
 refine zb (za ?_)
 refine s_as ?_
 refine zf (zd (zb (zb (za ?_))))
 refine s_mv ?_
 refine zB yU33 ?_
 refine s_mv ?_
 refine zf (zd (zl ?_))
 refine zaE (β:=Int) [2,3,4,7,8,9,10,11,12,13,14,15,16,17,18,19,20,21,22,23,24,25,26,27,28,29,30,31,32,33] [] [4] (fun a=>[(7,.t (.sc (.int .i64 a.2)))]) (fun a=>[]) (fun a=>a.1≤fuel∧zbf a.1 x1 a.2=some r∧0≤a.2) (fuel,0) ⟨Nat.le_refl _,F0,by simp⟩ ?_
 clear F0
 rintro ⟨fu,g1⟩ ⟨hl2,F1,hn_g1⟩
 dsimp only at hl2 F1 hn_g1 ⊢
 obtain _ | fu:=fu
 · rw [zbf] at F1;cases F1
 rw [zbf] at F1
 refine zb (za ?_)
 refine s_lt ?_
 refine zf (zd (zb ?_))
 refine zn F1 ?_ ?_<;>intro C3 F2
 refine zH 0 (fun B4=>?_)
 refine zi (zd (zb (zl (zb (za ?_)))))
 refine s_mv ?_
 obtain ⟨v5,V5,F3⟩:=zc F2
 refine zN Bind.row V5 (Bind.row_eq _) yE33 ?_
 refine zaI yA83 yS83 ?_
 refine zaN yZ83 ?_
 refine s_as ?_
 refine zde yS83 ?_
 refine zf (zd (zb ?_))
 refine zdr (α:=Nat × Bool) [12,13,14,15,16,17,18,19,20,21,22,23,24,25,26,27] [] [] (fun a=>[(27,.t (.sc (.bool a.2)))]) (fun a=>[]) (fun a=>a.1≤fu∧zaK a.1 x1 g1 v5 a.2=some r) ?_ ?_
 refine za ?_
 refine s_fa zgX ?_
 refine zq yA9 ?_
 obtain ⟨v6,V6,F4⟩:=zc F3
 refine zy [] (zgv fu _ _ V6) ?_
 refine zbh ?_
 refine s_mv ?_
 refine zx _ 16 F4 ?_ ?_<;>intro C7 F5
 iterate 4 refine r_no rfl ?_
 refine zC ?_
 refine s_mv ?_
 iterate 4 refine r_no rfl ?_
 refine zC ?_
 refine zf ?_
 exact s_jn (fu,true) ⟨by first | omega | (dsimp only;omega),F5⟩
 refine s_fa zfY ?_
 refine zq yA23 ?_
 obtain ⟨v8,V8,F6⟩:=zc F5
 refine zy [] (zgQ fu _ _ V8) ?_
 refine zbh ?_
 refine zD ?_
 refine s_mv ?_
 refine zx _ 22 F6 ?_ ?_<;>intro C9 F7
 iterate 4 refine r_no rfl ?_
 refine zC ?_
 refine zf ?_
 exact s_jn (fu,true) ⟨by first | omega | (dsimp only;omega),F7⟩
 refine s_fa yF83_2 ?_
 refine zq yA3 ?_
 obtain ⟨v10,V10,F8⟩:=zc F7
 refine zy [] (ze5 fu _ _ _ _ V10) ?_
 refine zbh ?_
 refine zD ?_
 refine zf ?_
 exact s_jn (fu,(!v10)) ⟨by first | omega | (dsimp only;omega),F8⟩
 clear F3
 rintro ⟨fu,g11⟩ ⟨hl12,F4⟩
 dsimp only at hl12 F4 ⊢
 obtain _ | fu:=fu
 · rw [zaK] at F4;cases F4
 rw [zaK] at F4
 refine zn F4 ?_ ?_<;>intro C13 F5
 refine zb (za ?_)
 refine s_as ?_
 refine zf (zd (zh (zg (zj (zg (zv (zj (zg (zo ?_)))))))))
 cases F5
 exact zk [] [] Tryz.results48
 refine zi (zd (zb (za ?_)))
 refine s_mv ?_
 refine s_mv ?_
 obtain ⟨v14,V14,F6⟩:=zc F5
 refine s_sl01 Bind.row (fun y=>Bind.row_len y) V14 yU33 yE33 ?_
 refine s_fn ?_
 obtain ⟨v15,V15,F7⟩:=zc F6
 refine zT [(9000,4)] [] _ _ (zd6 fu _ _ _ V15) ?_
 refine zf (zd ?_)
 refine zn F7 ?_ ?_<;>intro C16 F8
 refine zb (za ?_)
 refine s_as ?_
 refine zf (zd (zh (zj (zg (zv (zj (zg (zo ?_))))))))
 cases F8
 exact zk [] [] Tryz.results48
 refine zi (zY (zd (za ?_)))
 refine zE (zaF C3 B4 hn_g1) ?_
 refine s_mv ?_
 refine zf ?_
 exact s_rn (fu,(g1+1)) ⟨by first | omega | (dsimp only;omega),F8,by first | omega | (dsimp only;omega)⟩
 refine zA (zr (zp (zu (zd (zb (za ?_))))))
 refine s_mv ?_
 refine zB yU33 ?_
 refine s_le ?_
 refine s_as ?_
 refine zf (zd (zh (zo ?_)))
 cases F2
 exact zk [] [] Tryz.results48
def ze7 (fuel:Nat):Prop:=∀ (x1:Form) (x2:Int) (o1:Int) (r:(Bool × Int)),zd0 fuel x1 x2 o1=some r→AC Tryz.prog 103 [.ag [.t (.sc (.int .i64 x1.kind)),.t (.sc (.str x1.name)),.t (.sc (.int .i64 x1.n)),.t (.sl (x1.scopes.map rI)),.t (.sl (x1.kids.map Form.row))],.t (.sc (.int .i64 x2)),.rf 9000 0] (objs [(9000,.box [.t (.sc (.int .i64 o1))])]) (.t (.sc (.bool r.1))) (objs [(9000,.box [.t (.sc (.int .i64 r.2))])])
theorem m_impl_formOk_st (fu:Nat) (ih_m_impl_formOk:∀ k,k≤fu→ze7 k):ze7 (fu+1):=by
 intro x1 x2 o1 r F0
 rw [zd0] at F0
 refine AC_i [.t (.sc (.bool r.1))] Tryz.func103 rfl Tryz.ntmps103 ?_
 intro C hC
 refine zb (za ?_)
 refine zbo ?_
 refine s_as ?_
 refine zf (zd (zb (za ?_)))
 refine s_mv ?_
 refine s_nc ?_
 refine zq yA3 ?_
 refine zfZ rfl ?_
 refine s_nc ?_
 refine zde yS3 ?_
 refine zf (zd (zb (zb (za ?_))))
 refine s_mv ?_
 refine s_nc ?_
 refine zq yA3 ?_
 refine s_lt ?_
 refine s_mv ?_
 refine zx _ 18 F0 ?_ ?_<;>intro C1 F1
 refine r_no rfl (r_no rfl ?_)
 refine zC ?_
 refine zf (zd (zaa rfl (zb (za ?_))))
 refine s_as ?_
 refine zf (zd (zh (zg (zo ?_))))
 cases F1
 exact zk _ [] Tryz.results103
 refine s_mv ?_
 refine s_gt ?_
 refine zD ?_
 refine zf (zd ?_)
 refine zn F1 ?_ ?_<;>intro C2 F2
 refine zb (za ?_)
 refine s_as ?_
 refine zf (zd (zh (zg (zo ?_))))
 cases F2
 exact zk _ [] Tryz.results103
 refine zi (zd (zb (zb (za ?_))))
 refine s_fa zcD ?_
 refine zq yA3 ?_
 refine zf (zd (zl (zb (za ?_))))
 refine s_eq ?_
 refine s_as ?_
 refine zf (zd ?_)
 refine zn F2 ?_ ?_<;>intro C3 F3
 refine zb (za ?_)
 refine s_fa zbC ?_
 refine zq yA9 ?_
 obtain ⟨v4,V4,F4⟩:=zc F3
 refine zy [] (zgv fu _ _ V4) ?_
 refine s_mv ?_
 refine zx _ 29 F4 ?_ ?_<;>intro C5 F5
 refine s_fa zeg ?_
 refine zq yA3 ?_
 refine s_eq ?_
 refine zC ?_
 refine s_mv ?_
 refine zx _ 34 F5 ?_ ?_<;>intro C6 F6
 refine s_fa zdR ?_
 refine zq yA23 ?_
 obtain ⟨v7,V7,F7⟩:=zc F6
 refine zy [] (zgQ fu _ _ V7) ?_
 refine zC ?_
 refine s_mv ?_
 refine zx _ 39 F7 ?_ ?_<;>intro C8 F8
 refine s_fa zJ ?_
 refine zq yA35 ?_
 refine zB yU35 ?_
 refine s_eq ?_
 refine zC ?_
 refine s_as ?_
 refine zf (zd (zh (zj (zg (zo ?_)))))
 cases F8
 exact zk _ [] Tryz.results103
 iterate 4 refine r_no rfl ?_
 refine zD ?_
 refine s_as ?_
 refine zf (zd (zh (zj (zg (zo ?_)))))
 cases F8
 exact zk _ [] Tryz.results103
 iterate 3 refine r_no rfl ?_
 refine zD ?_
 refine s_mv ?_
 iterate 4 refine r_no rfl ?_
 refine zD ?_
 refine s_as ?_
 refine zf (zd (zh (zj (zg (zo ?_)))))
 cases F6
 exact zk _ [] Tryz.results103
 iterate 3 refine r_no rfl ?_
 refine zD ?_
 refine s_mv ?_
 iterate 3 refine r_no rfl ?_
 refine zD ?_
 refine s_mv ?_
 iterate 4 refine r_no rfl ?_
 refine zD ?_
 refine s_as ?_
 refine zf (zd (zh (zj (zg (zo ?_)))))
 cases F5
 exact zk _ [] Tryz.results103
 refine zb (za ?_)
 refine s_eq ?_
 refine s_as ?_
 refine zf (zd ?_)
 refine zn F3 ?_ ?_<;>intro C9 F4
 refine zb (za ?_)
 refine s_fa zbC ?_
 refine zq yA9 ?_
 refine zgj ?_
 refine s_mv ?_
 refine zx _ 50 F4 ?_ ?_<;>intro C10 F5
 refine s_fa zeg ?_
 refine zq yA3 ?_
 obtain ⟨v11,V11,F6⟩:=zc F5
 refine zy [] (ze5 fu _ _ _ _ V11) ?_
 refine zC ?_
 refine s_mv ?_
 refine zx _ 55 F6 ?_ ?_<;>intro C12 F7
 refine s_fa zdR ?_
 refine zq yA23 ?_
 refine zB yU23 ?_
 refine s_eq ?_
 refine zC ?_
 refine s_mv ?_
 refine zx _ 61 F7 ?_ ?_<;>intro C13 F8
 refine s_fa zJ ?_
 refine zq yA35 ?_
 refine zB yU35 ?_
 refine s_eq ?_
 refine zC ?_
 refine s_as ?_
 refine zf (zd (zh (zj (zg (zo ?_)))))
 cases F8
 exact zk _ [] Tryz.results103
 iterate 4 refine r_no rfl ?_
 refine zD ?_
 refine s_as ?_
 refine zf (zd (zh (zj (zg (zo ?_)))))
 cases F8
 exact zk _ [] Tryz.results103
 iterate 4 refine r_no rfl ?_
 refine zD ?_
 refine s_mv ?_
 iterate 4 refine r_no rfl ?_
 refine zD ?_
 refine s_as ?_
 refine zf (zd (zh (zj (zg (zo ?_)))))
 cases F7
 exact zk _ [] Tryz.results103
 iterate 3 refine r_no rfl ?_
 refine zD ?_
 refine s_mv ?_
 iterate 4 refine r_no rfl ?_
 refine zD ?_
 refine s_mv ?_
 iterate 4 refine r_no rfl ?_
 refine zD ?_
 refine s_as ?_
 refine zf (zd (zh (zj (zg (zo ?_)))))
 cases F5
 exact zk _ [] Tryz.results103
 refine zb (za ?_)
 refine s_eq ?_
 refine s_as ?_
 refine zf (zd ?_)
 refine zn F4 ?_ ?_<;>intro C14 F5
 refine zb (zb (za ?_))
 refine s_fa zbC ?_
 refine zq yA9 ?_
 refine s_neS ?_
 refine s_mv ?_
 refine zx _ 72 F5 ?_ ?_<;>intro C15 F6
 iterate 3 refine r_no rfl ?_
 refine zC ?_
 refine s_mv ?_
 iterate 4 refine r_no rfl ?_
 refine zC ?_
 refine zf (zd (zaa rfl (zb (za ?_))))
 refine s_as ?_
 refine zf (zd (zh (zg (zj (zg (zo ?_))))))
 cases F6
 exact zk _ [] Tryz.results103
 refine s_fa zeg ?_
 refine zq yA3 ?_
 refine s_ne ?_
 refine zD ?_
 refine s_mv ?_
 refine zx _ 77 F6 ?_ ?_<;>intro C16 F7
 iterate 4 refine r_no rfl ?_
 refine zC ?_
 refine zf (zd (zaa rfl (zb (za ?_))))
 refine s_as ?_
 refine zf (zd (zh (zg (zj (zg (zo ?_))))))
 cases F7
 exact zk _ [] Tryz.results103
 refine s_fa zdR ?_
 refine zq yA23 ?_
 refine zB yU23 ?_
 refine s_gt ?_
 refine zD ?_
 refine zf (zd ?_)
 refine zn F7 ?_ ?_<;>intro C17 F8
 refine zH 79 (fun B18=>?_)
 refine zb (za ?_)
 refine s_as ?_
 refine zf (zd (zh (zg (zj (zg (zo ?_))))))
 cases F8
 exact zk _ [] Tryz.results103
 refine zi (zd (zb (zb (za ?_))))
 refine s_fa zJ ?_
 refine zq yA35 ?_
 refine zB yU35 ?_
 refine s_mv ?_
 refine zf (zd (zl ?_))
 refine zaE (β:=Int × Int) [6,8,86,87,88,89,90,91,92,93,94,95,96] [9000] [8] (fun a=>[(86,.t (.sc (.int .i64 a.2.1)))]) (fun a=>[(9000,.box [.t (.sc (.int .i64 a.2.2))])]) (fun a=>a.1≤fu∧zch a.1 x1 x2 a.2.1 a.2.2=some r∧0≤a.2.1) (fu,0,(w64 (o1-1))) ⟨Nat.le_refl _,F8,by simp⟩ ?_
 clear F8
 rintro ⟨fu,g19,g20⟩ ⟨hl21,F9,hn_g19⟩
 dsimp only at hl21 F9 hn_g19 ⊢
 obtain _ | fu:=fu
 · rw [zch] at F9;cases F9
 rw [zch] at F9
 refine zb (za ?_)
 refine s_lt ?_
 refine zf (zd (zb ?_))
 refine zn F9 ?_ ?_<;>intro C22 F10
 refine zH 84 (fun B23=>?_)
 refine zi (zd (zb (zl (zb (za ?_)))))
 obtain ⟨v24,V24,F11⟩:=zc F10
 refine zN Form.row V24 (Form.row_eq _) yE35 ?_
 refine zaI yA37 yS37 ?_
 refine zaN yZ37 ?_
 refine zde yS37 ?_
 refine zf (zd (zb (za ?_)))
 refine z6 yA37 yS37 ?_
 refine s_mv ?_
 refine zE rfl ?_
 refine s_mv ?_
 obtain ⟨v25,V25,F12⟩:=zc F11
 refine zT [(9000,9000)] [] _ _ (ih_m_impl_formOk fu (by omega) _ _ _ _ V25) ?_
 refine zbh ?_
 refine zf (zd ?_)
 refine zn F12 ?_ ?_<;>intro C26 F13
 refine zb (za ?_)
 refine s_as ?_
 refine zf (zd (zh (zj (zg (zv (zj (zg (zj (zg (zo ?_))))))))))
 cases F13
 exact zk _ [] Tryz.results103
 refine zi (zY (zd (za ?_)))
 refine zE (zaF C22 B23 hn_g19) ?_
 refine s_mv ?_
 refine zf ?_
 exact s_rn (fu,(g19+1),v25.2) ⟨by first | omega | (dsimp only;omega),F13,by first | omega | (dsimp only;omega)⟩
 refine zA (zr (zp (zu (zd (zb (za ?_))))))
 refine s_as ?_
 refine zf (zd (zh (zj (zg (zo ?_)))))
 cases F10
 exact zk _ [] Tryz.results103
 refine zi (zY (zd (zb (za ?_))))
 refine s_as ?_
 refine zf (zd (zh (zo ?_)))
 cases F5
 exact zk _ [] Tryz.results103
theorem m_impl_formOk_all (fuel:Nat):ze7 fuel:=by
 induction fuel using Nat.strongRecOn with
 | _ N ih =>
   cases N with
   | zero=>exact (by intro x1 x2 o1 r h;rw [zd0] at h;cases h)
   | succ fu=>exact m_impl_formOk_st fu (fun k hk=>(ih k (by omega)))
theorem m_impl_formOk_ok (fuel:Nat):ze7 fuel:=(m_impl_formOk_all fuel)
def m_impl_FormValid_AC (fuel:Nat):Prop:=∀ (x1:Form) (r:Bool),zcO fuel x1=some r→AC Tryz.prog 50 [.ag [.t (.sc (.int .i64 x1.kind)),.t (.sc (.str x1.name)),.t (.sc (.int .i64 x1.n)),.t (.sl (x1.scopes.map rI)),.t (.sl (x1.kids.map Form.row))]] noOb (.t (.sc (.bool r))) noOb
theorem zd2 (fuel:Nat):m_impl_FormValid_AC fuel:=by
 intro x1 r F0
 unfold zcO at F0
 refine AC_i [.t (.sc (.bool r))] Tryz.func50 rfl Tryz.ntmps50 ?_
 intro C hC
 refine zb (za ?_)
 refine zbo ?_
 refine s_as ?_
 refine zf (zd (zb (za ?_)))
 refine zaN yZ3 ?_
 refine zde yS3 ?_
 refine zf (zd (zb (za ?_)))
 refine z6 yA37 yS37 ?_
 obtain ⟨v1,V1,F1⟩:=zc F0
 refine zT [(9000,3)] [] _ _ (m_impl_formOk_ok fuel _ _ _ _ V1) ?_
 refine s_as ?_
 refine zf (zd (zh (zo ?_)))
 cases F1
 exact zk [] [] Tryz.results50
def m_impl_isName_AC (fuel:Nat):Prop:=∀ (x1:Form) (r:Bool),zdo fuel x1=some r→AC Tryz.prog 132 [.ag [.t (.sc (.int .i64 x1.kind)),.t (.sc (.str x1.name)),.t (.sc (.int .i64 x1.n)),.t (.sl (x1.scopes.map rI)),.t (.sl (x1.kids.map Form.row))]] noOb (.t (.sc (.bool r))) noOb
theorem ze6 (fuel:Nat):m_impl_isName_AC fuel:=by
 intro x1 r F0
 unfold zdo at F0
 refine AC_i [.t (.sc (.bool r))] Tryz.func132 rfl Tryz.ntmps132 ?_
 intro C hC
 refine zb (za ?_)
 refine zbo ?_
 refine s_as ?_
 refine zf (zd (zb (za ?_)))
 refine s_fa zcD ?_
 refine zq yA3 ?_
 refine s_eq ?_
 refine s_mv ?_
 refine zx _ 6 F0 ?_ ?_<;>intro C1 F1
 refine z6 yA37 yS37 ?_
 obtain ⟨v2,V2,F2⟩:=zc F1
 refine zy [] (zd2 fuel _ _ V2) ?_
 refine zC ?_
 refine s_as ?_
 refine zf (zd (zh (zo ?_)))
 cases F2
 exact zk [] [] Tryz.results132
 refine r_no rfl (r_no rfl ?_)
 refine zD ?_
 refine s_as ?_
 refine zf (zd (zh (zo ?_)))
 cases F1
 exact zk [] [] Tryz.results132
def zdq (fuel:Nat):Prop:=∀ (x1:Form) (x2:Form) (r:Bool),zbV fuel x1 x2=some r→AC Tryz.prog 106 [.ag [.t (.sc (.int .i64 x1.kind)),.t (.sc (.str x1.name)),.t (.sc (.int .i64 x1.n)),.t (.sl (x1.scopes.map rI)),.t (.sl (x1.kids.map Form.row))],.ag [.t (.sc (.int .i64 x2.kind)),.t (.sc (.str x2.name)),.t (.sc (.int .i64 x2.n)),.t (.sl (x2.scopes.map rI)),.t (.sl (x2.kids.map Form.row))]] noOb (.t (.sc (.bool r))) noOb
def zaW (fuel:Nat):Prop:=∀ (x1:(List Form)) (x2:(List Form)) (r:Bool),zaH fuel x1 x2=some r→AC Tryz.prog 138 [.t (.sl (x1.map Form.row)),.t (.sl (x2.map Form.row)),.fn 106 []] noOb (.t (.sc (.bool r))) noOb
theorem m_impl_FormSame_st (fu:Nat) (ih_m_impl_FormSame:∀ k,k≤fu→zdq k) (ih_m_slices_EqualFunc_Form_FormSame:∀ k,k≤fu→zaW k):zdq (fu+1):=by
 intro x1 x2 r F0
 rw [zbV] at F0
 refine AC_i [.t (.sc (.bool r))] Tryz.func106 rfl Tryz.ntmps106 ?_
 intro C hC
 refine zb (za ?_)
 refine zbo ?_
 refine zbo ?_
 refine s_as ?_
 refine zf (zd (zb (za ?_)))
 refine s_fa zcD ?_
 refine zq yA3 ?_
 refine s_fa zcD ?_
 refine zq yA3 ?_
 refine s_eq ?_
 refine s_mv ?_
 refine zx _ 10 F0 ?_ ?_<;>intro C1 F1
 refine s_fa zbC ?_
 refine zq yA9 ?_
 refine s_fa zbC ?_
 refine zq yA9 ?_
 refine zgj ?_
 refine zC ?_
 refine s_mv ?_
 refine zx _ 17 F1 ?_ ?_<;>intro C2 F2
 refine s_fa zeg ?_
 refine zq yA3 ?_
 refine s_fa zeg ?_
 refine zq yA3 ?_
 refine s_eq ?_
 refine zC ?_
 refine s_mv ?_
 refine zx _ 24 F2 ?_ ?_<;>intro C3 F3
 refine s_fa zdR ?_
 refine zq yA23 ?_
 refine s_fa zdR ?_
 refine zq yA23 ?_
 obtain ⟨v4,V4,F4⟩:=zc F3
 refine zy [] (zf2 fu _ _ _ V4) ?_
 refine zC ?_
 refine s_mv ?_
 refine zx _ 31 F4 ?_ ?_<;>intro C5 F5
 refine s_fa zJ ?_
 refine zq yA35 ?_
 refine s_fa zJ ?_
 refine zq yA35 ?_
 obtain ⟨v6,V6,F6⟩:=zc F5
 refine zy [] (ih_m_slices_EqualFunc_Form_FormSame fu (by omega) _ _ _ V6) ?_
 refine zC ?_
 refine s_as ?_
 refine zf (zd (zh (zo ?_)))
 cases F6
 exact zk [] [] Tryz.results106
 iterate 5 refine r_no rfl ?_
 refine zD ?_
 refine s_as ?_
 refine zf (zd (zh (zo ?_)))
 cases F5
 exact zk [] [] Tryz.results106
 iterate 5 refine r_no rfl ?_
 refine zD ?_
 refine s_mv ?_
 iterate 5 refine r_no rfl ?_
 refine zD ?_
 refine s_as ?_
 refine zf (zd (zh (zo ?_)))
 cases F3
 exact zk [] [] Tryz.results106
 iterate 5 refine r_no rfl ?_
 refine zD ?_
 refine s_mv ?_
 iterate 5 refine r_no rfl ?_
 refine zD ?_
 refine s_mv ?_
 iterate 5 refine r_no rfl ?_
 refine zD ?_
 refine s_as ?_
 refine zf (zd (zh (zo ?_)))
 cases F2
 exact zk [] [] Tryz.results106
 iterate 5 refine r_no rfl ?_
 refine zD ?_
 refine s_mv ?_
 iterate 5 refine r_no rfl ?_
 refine zD ?_
 refine s_mv ?_
 iterate 5 refine r_no rfl ?_
 refine zD ?_
 refine s_mv ?_
 iterate 5 refine r_no rfl ?_
 refine zD ?_
 refine s_as ?_
 refine zf (zd (zh (zo ?_)))
 cases F1
 exact zk [] [] Tryz.results106
theorem zff (fu:Nat) (ih_m_impl_FormSame:∀ k,k≤fu→zdq k) (ih_m_slices_EqualFunc_Form_FormSame:∀ k,k≤fu→zaW k):zaW (fu+1):=by
 intro x1 x2 r F0
 rw [zaH] at F0
 refine AC_i [.t (.sc (.bool r))] Tryz.func138 rfl Tryz.ntmps138 ?_
 intro C hC
 refine zb (za ?_)
 refine s_as ?_
 refine zf (zd (zb (zb (za ?_))))
 refine s_mv ?_
 refine zB yU35 ?_
 refine s_mv ?_
 refine zB yU35 ?_
 refine s_ne ?_
 refine zf (zd ?_)
 refine zn F0 ?_ ?_<;>intro C1 F1
 refine zb (za ?_)
 refine s_as ?_
 refine zf (zd (zh (zg (zo ?_))))
 cases F1
 exact zk [] [] Tryz.results138
 refine zi (zd (zb (zb (za ?_))))
 refine s_mv ?_
 refine zB yU35 ?_
 refine s_mv ?_
 refine zf (zd (zl ?_))
 refine zaE (β:=Int) [6,7,8,9,17,18,19,20,21,22,23,24,25,26,27,28,29,30,31] [] [8,9] (fun a=>[(17,.t (.sc (.int .i64 a.2)))]) (fun a=>[]) (fun a=>a.1≤fu∧zW a.1 x1 x2 a.2=some r∧0≤a.2) (fu,0) ⟨Nat.le_refl _,F1,by simp⟩ ?_
 clear F1
 rintro ⟨fu,g2⟩ ⟨hl3,F2,hn_g2⟩
 dsimp only at hl3 F2 hn_g2 ⊢
 obtain _ | fu:=fu
 · rw [zW] at F2;cases F2
 rw [zW] at F2
 refine zb (za ?_)
 refine s_lt ?_
 refine zf (zd (zb ?_))
 refine zn F2 ?_ ?_<;>intro C4 F3
 refine zH 0 (fun B5=>?_)
 refine zi (zd (zb (zl (zb (za ?_)))))
 refine s_mv ?_
 obtain ⟨v6,V6,F4⟩:=zc F3
 refine zN Form.row V6 (Form.row_eq _) yE35 ?_
 refine zaI yA37 yS37 ?_
 refine zaN yZ37 ?_
 refine s_as ?_
 refine zde yS37 ?_
 refine zf (zd (zb (za ?_)))
 refine s_mv ?_
 refine s_mv ?_
 obtain ⟨v7,V7,F5⟩:=zc F4
 refine zN Form.row V7 (Form.row_eq _) yE35 ?_
 refine zaI yA37 yS37 ?_
 refine zaN yZ37 ?_
 refine zde yS37 ?_
 refine zf (zd (zb (za ?_)))
 refine s_mv ?_
 refine z6 yA37 yS37 ?_
 refine z6 yA37 yS37 ?_
 obtain ⟨v8,V8,F6⟩:=zc F5
 refine zy [] (ih_m_impl_FormSame fu (by omega) _ _ _ V8) ?_
 refine zbh ?_
 refine zf (zd ?_)
 refine zn F6 ?_ ?_<;>intro C9 F7
 refine zb (za ?_)
 refine s_as ?_
 refine zf (zd (zh (zj (zg (zv (zj (zg (zo ?_))))))))
 cases F7
 exact zk [] [] Tryz.results138
 refine zi (zY (zd (za ?_)))
 refine zE (zaF C4 B5 hn_g2) ?_
 refine s_mv ?_
 refine zf ?_
 exact s_rn (fu,(g2+1)) ⟨by first | omega | (dsimp only;omega),F7,by first | omega | (dsimp only;omega)⟩
 refine zA (zr (zp (zu (zd (zb (za ?_))))))
 refine s_as ?_
 refine zf (zd (zh (zo ?_)))
 cases F3
 exact zk [] [] Tryz.results138
theorem m_impl_FormSame_all (fuel:Nat):zdq fuel∧zaW fuel:=by
 induction fuel using Nat.strongRecOn with
 | _ N ih =>
   cases N with
   | zero=>exact ⟨(by intro x1 x2 r h;rw [zbV] at h;cases h),(by intro x1 x2 r h;rw [zaH] at h;cases h)⟩
   | succ fu=>exact ⟨m_impl_FormSame_st fu (fun k hk=>(ih k (by omega)).1) (fun k hk=>(ih k (by omega)).2),zff fu (fun k hk=>(ih k (by omega)).1) (fun k hk=>(ih k (by omega)).2)⟩
theorem zfB (fuel:Nat):zdq fuel:=(m_impl_FormSame_all fuel).1
def m_impl_isIn_1_AC (fuel:Nat):Prop:=∀ (x1:Form) (o1:Form) (r:Bool),zfy fuel x1 o1=some r→AC Tryz.prog 135 [.ag [.t (.sc (.int .i64 x1.kind)),.t (.sc (.str x1.name)),.t (.sc (.int .i64 x1.n)),.t (.sl (x1.scopes.map rI)),.t (.sl (x1.kids.map Form.row))],.rf 9000 0] (objs [(9000,.box [.t (.sc (.int .i64 o1.kind)),.t (.sc (.str o1.name)),.t (.sc (.int .i64 o1.n)),.t (.sl (o1.scopes.map rI)),.t (.sl (o1.kids.map Form.row))])]) (.t (.sc (.bool r))) (objs [(9000,.box [.t (.sc (.int .i64 o1.kind)),.t (.sc (.str o1.name)),.t (.sc (.int .i64 o1.n)),.t (.sl (o1.scopes.map rI)),.t (.sl (o1.kids.map Form.row))])])
theorem m_impl_isIn_1_ok (fuel:Nat):m_impl_isIn_1_AC fuel:=by
 intro x1 o1 r F0
 unfold zfy at F0
 refine AC_i [.t (.sc (.bool r))] Tryz.func135 rfl Tryz.ntmps135 ?_
 intro C hC
 refine zb (za ?_)
 refine zbo ?_
 refine s_as ?_
 refine zf (zd (zb (za ?_)))
 refine z6 yA37 yS37 ?_
 refine z6 yA37 yS37 ?_
 obtain ⟨v1,V1,F1⟩:=zc F0
 refine zy [] (zfB fuel _ _ _ V1) ?_
 refine s_as ?_
 refine zf (zd (zh (zo ?_)))
 cases F1
 exact zk _ [] Tryz.results135
def zfv (fuel:Nat):Prop:=∀ (x1:(List Form)) (o1:Form) (r:Int),zbJ fuel x1 o1=some r→AC Tryz.prog 139 [.t (.sl (x1.map Form.row)),.fn 135 [.rf 9000 0]] (objs [(9000,.box [.t (.sc (.int .i64 o1.kind)),.t (.sc (.str o1.name)),.t (.sc (.int .i64 o1.n)),.t (.sl (o1.scopes.map rI)),.t (.sl (o1.kids.map Form.row))])]) (.t (.sc (.int .i64 r))) (objs [(9000,.box [.t (.sc (.int .i64 o1.kind)),.t (.sc (.str o1.name)),.t (.sc (.int .i64 o1.n)),.t (.sl (o1.scopes.map rI)),.t (.sl (o1.kids.map Form.row))])])
theorem zfu (fuel:Nat):zfv fuel:=by
 intro x1 o1 r F0
 unfold zbJ at F0
 refine AC_i [.t (.sc (.int .i64 r))] Tryz.func139 rfl Tryz.ntmps139 ?_
 intro C hC
 refine zb (za ?_)
 refine s_as ?_
 refine zf (zd (zb (zb (za ?_))))
 refine s_mv ?_
 refine zB yU35 ?_
 refine s_mv ?_
 refine zf (zd (zl ?_))
 refine zaE (β:=Int) [4,5,8,9,10,11,12,13,14,15,16,17,18] [] [] (fun a=>[(8,.t (.sc (.int .i64 a.2)))]) (fun a=>[]) (fun a=>a.1≤fuel∧z8 a.1 x1 o1 a.2=some r∧0≤a.2) (fuel,0) ⟨Nat.le_refl _,F0,by simp⟩ ?_
 clear F0
 rintro ⟨fu,g1⟩ ⟨hl2,F1,hn_g1⟩
 dsimp only at hl2 F1 hn_g1 ⊢
 obtain _ | fu:=fu
 · rw [z8] at F1;cases F1
 rw [z8] at F1
 refine zb (za ?_)
 refine s_lt ?_
 refine zf (zd (zb ?_))
 refine zn F1 ?_ ?_<;>intro C3 F2
 refine zH 0 (fun B4=>?_)
 refine zi (zd (zb (zl (zb (za ?_)))))
 refine s_mv ?_
 refine s_as ?_
 refine zf (zd (zb (za ?_)))
 iterate 3 refine s_mv ?_
 obtain ⟨v5,V5,F3⟩:=zc F2
 refine zN Form.row V5 (Form.row_eq _) yE35 ?_
 refine zaI yA37 yS37 ?_
 obtain ⟨v6,V6,F4⟩:=zc F3
 refine zT [(9000,9000)] [] _ _ (m_impl_isIn_1_ok fu _ _ _ V6) ?_
 refine zf (zd ?_)
 refine zn F4 ?_ ?_<;>intro C7 F5
 refine zb (za ?_)
 refine s_mv ?_
 refine s_as ?_
 refine zf (zd (zh (zj (zg (zv (zj (zg (zo ?_))))))))
 cases F5
 exact zk _ [] Tryz.results139
 refine zi (zY (zd (za ?_)))
 refine zE (zaF C3 B4 hn_g1) ?_
 refine s_mv ?_
 refine zf ?_
 exact s_rn (fu,(g1+1)) ⟨by first | omega | (dsimp only;omega),F5,by first | omega | (dsimp only;omega)⟩
 refine zA (zr (zp (zu (zd (zb (za ?_))))))
 refine s_as ?_
 refine zf (zd (zh (zo ?_)))
 cases F2
 exact zk _ [] Tryz.results139
def zeS (fuel:Nat):Prop:=∀ (x1:(List Form)) (o1:Form) (r:Bool),zbk fuel x1 o1=some r→AC Tryz.prog 134 [.t (.sl (x1.map Form.row)),.fn 135 [.rf 9000 0]] (objs [(9000,.box [.t (.sc (.int .i64 o1.kind)),.t (.sc (.str o1.name)),.t (.sc (.int .i64 o1.n)),.t (.sl (o1.scopes.map rI)),.t (.sl (o1.kids.map Form.row))])]) (.t (.sc (.bool r))) (objs [(9000,.box [.t (.sc (.int .i64 o1.kind)),.t (.sc (.str o1.name)),.t (.sc (.int .i64 o1.n)),.t (.sl (o1.scopes.map rI)),.t (.sl (o1.kids.map Form.row))])])
theorem zeR (fuel:Nat):zeS fuel:=by
 intro x1 o1 r F0
 unfold zbk at F0
 refine AC_i [.t (.sc (.bool r))] Tryz.func134 rfl Tryz.ntmps134 ?_
 intro C hC
 refine zb (za ?_)
 refine s_as ?_
 refine zf (zd (zb (za ?_)))
 refine s_mv ?_
 refine s_mv ?_
 obtain ⟨v1,V1,F1⟩:=zc F0
 refine zT [(9000,9000)] [] _ _ (zfu fuel _ _ _ V1) ?_
 refine s_ge ?_
 refine s_as ?_
 refine zf (zd (zh (zo ?_)))
 cases F1
 exact zk _ [] Tryz.results134
def m_impl_isIn_AC (fuel:Nat):Prop:=∀ (x1:(List Form)) (x2:Form) (r:Bool),zev fuel x1 x2=some r→AC Tryz.prog 102 [.t (.sl (x1.map Form.row)),.ag [.t (.sc (.int .i64 x2.kind)),.t (.sc (.str x2.name)),.t (.sc (.int .i64 x2.n)),.t (.sl (x2.scopes.map rI)),.t (.sl (x2.kids.map Form.row))]] noOb (.t (.sc (.bool r))) noOb
theorem zeV (fuel:Nat):m_impl_isIn_AC fuel:=by
 intro x1 x2 r F0
 unfold zev at F0
 refine AC_i [.t (.sc (.bool r))] Tryz.func102 rfl Tryz.ntmps102 ?_
 intro C hC
 refine zb (za ?_)
 refine zbo ?_
 refine s_as ?_
 refine zf (zd (zb (za ?_)))
 refine s_mv ?_
 refine s_fn ?_
 obtain ⟨v1,V1,F1⟩:=zc F0
 refine zT [(9000,3)] [] _ _ (zeR fuel _ _ _ V1) ?_
 refine s_as ?_
 refine zf (zd (zh (zo ?_)))
 cases F1
 exact zk [] [] Tryz.results102
def m_impl_literalsOk_AC (fuel:Nat):Prop:=∀ (x1:(List Form)) (r:Bool),zdM fuel x1=some r→AC Tryz.prog 98 [.t (.sl (x1.map Form.row))] noOb (.t (.sc (.bool r))) noOb
theorem m_impl_literalsOk_ok (fuel:Nat):m_impl_literalsOk_AC fuel:=by
 intro x1 r F0
 unfold zdM at F0
 refine AC_i [.t (.sc (.bool r))] Tryz.func98 rfl Tryz.ntmps98 ?_
 intro C hC
 refine zb (za ?_)
 refine s_as ?_
 refine zf (zd (zb (zb (za ?_))))
 refine s_mv ?_
 refine zB yU35 ?_
 refine s_mv ?_
 refine zf (zd (zl ?_))
 refine zaE (β:=Int) [2,3,4,7,8,9,10,11,12,13,14,15,16,17,18,19,20,21,22,23,24,25,26,27,28,29,30,31,32] [] [4] (fun a=>[(7,.t (.sc (.int .i64 a.2)))]) (fun a=>[]) (fun a=>a.1≤fuel∧zbe a.1 x1 a.2=some r∧0≤a.2) (fuel,0) ⟨Nat.le_refl _,F0,by simp⟩ ?_
 clear F0
 rintro ⟨fu,g1⟩ ⟨hl2,F1,hn_g1⟩
 dsimp only at hl2 F1 hn_g1 ⊢
 obtain _ | fu:=fu
 · rw [zbe] at F1;cases F1
 rw [zbe] at F1
 refine zb (za ?_)
 refine s_lt ?_
 refine zf (zd (zb ?_))
 refine zn F1 ?_ ?_<;>intro C3 F2
 refine zH 0 (fun B4=>?_)
 refine zi (zd (zb (zl (zb (za ?_)))))
 refine s_mv ?_
 obtain ⟨v5,V5,F3⟩:=zc F2
 refine zN Form.row V5 (Form.row_eq _) yE35 ?_
 refine zaI yA37 yS37 ?_
 refine zaN yZ37 ?_
 refine s_as ?_
 refine zde yS37 ?_
 refine zf (zd (zb ?_))
 refine zP yMix (by kernel_rfl) ?_
 refine z6 yA37 yS37 ?_
 obtain ⟨v6,V6,F4⟩:=zc F3
 refine zy [] (ze6 fu _ _ V6) ?_
 refine zbh ?_
 refine s_mv ?_
 refine zx _ 15 F4 ?_ ?_<;>intro C7 F5
 iterate 3 refine r_no rfl ?_
 refine zC ?_
 refine s_mv ?_
 iterate 3 refine r_no rfl ?_
 refine zC ?_
 refine s_mv ?_
 iterate 5 refine r_no rfl ?_
 refine zC ?_
 refine zai (by kernel_rfl) ?_
 refine zd (zaa rfl (zb (za ?_)))
 refine s_as ?_
 refine zf (zd (zh (zj (zg (zv (zj (zg (zo ?_))))))))
 cases F5
 exact zk [] [] Tryz.results98
 refine s_fa zbC ?_
 refine zq yA9 ?_
 refine zgj ?_
 refine zD ?_
 refine s_mv ?_
 refine zx _ 20 F5 ?_ ?_<;>intro C8 F6
 iterate 3 refine r_no rfl ?_
 refine zC ?_
 refine s_mv ?_
 iterate 5 refine r_no rfl ?_
 refine zC ?_
 refine zai (by kernel_rfl) ?_
 refine zd (zaa rfl (zb (za ?_)))
 refine s_as ?_
 refine zf (zd (zh (zj (zg (zv (zj (zg (zo ?_))))))))
 cases F6
 exact zk [] [] Tryz.results98
 refine s_fa zbC ?_
 refine zq yA9 ?_
 refine zgj ?_
 refine zD ?_
 refine s_mv ?_
 refine zx _ 25 F6 ?_ ?_<;>intro C9 F7
 iterate 5 refine r_no rfl ?_
 refine zC ?_
 refine zai (by kernel_rfl) ?_
 refine zd (zaa rfl (zb (za ?_)))
 refine s_as ?_
 refine zf (zd (zh (zj (zg (zv (zj (zg (zo ?_))))))))
 cases F7
 exact zk [] [] Tryz.results98
 refine s_mv ?_
 refine s_mv ?_
 obtain ⟨v10,V10,F8⟩:=zc F7
 refine s_sl01 Form.row (fun y=>Form.row_len y) V10 yU35 yE35 ?_
 refine z6 yA37 yS37 ?_
 obtain ⟨v11,V11,F9⟩:=zc F8
 refine zy [] (zeV fu _ _ _ V11) ?_
 refine zD ?_
 refine zai (by kernel_rfl) ?_
 refine zd ?_
 refine zn F9 ?_ ?_<;>intro C12 F10
 refine zb (za ?_)
 refine s_as ?_
 refine zf (zd (zh (zj (zg (zv (zj (zg (zo ?_))))))))
 cases F10
 exact zk [] [] Tryz.results98
 refine zi (zY (zd (za ?_)))
 refine zE (zaF C3 B4 hn_g1) ?_
 refine s_mv ?_
 refine zf ?_
 exact s_rn (fu,(g1+1)) ⟨by first | omega | (dsimp only;omega),F10,by first | omega | (dsimp only;omega)⟩
 refine zA (zr (zp (zu (zd (zb (za ?_))))))
 refine s_mv ?_
 refine zB yU35 ?_
 refine s_le ?_
 refine s_as ?_
 refine zf (zd (zh (zo ?_)))
 cases F2
 exact zk [] [] Tryz.results98
def m_impl_named_AC (fuel:Nat):Prop:=∀ (x1:Form) (x2:ByteArray) (r:Bool),zdn fuel x1 x2=some r→AC Tryz.prog 99 [.ag [.t (.sc (.int .i64 x1.kind)),.t (.sc (.str x1.name)),.t (.sc (.int .i64 x1.n)),.t (.sl (x1.scopes.map rI)),.t (.sl (x1.kids.map Form.row))],.t (.sc (.str x2))] noOb (.t (.sc (.bool r))) noOb
theorem zdK (fuel:Nat):m_impl_named_AC fuel:=by
 intro x1 x2 r F0
 unfold zdn at F0
 refine AC_i [.t (.sc (.bool r))] Tryz.func99 rfl Tryz.ntmps99 ?_
 intro C hC
 refine zb (za ?_)
 refine zbo ?_
 refine s_as ?_
 refine zf (zd (zb (za ?_)))
 refine s_fa zcD ?_
 refine zq yA3 ?_
 refine s_eq ?_
 refine s_mv ?_
 refine zx _ 8 F0 ?_ ?_<;>intro C1 F1
 refine s_fa zbC ?_
 refine zq yA9 ?_
 refine s_mv ?_
 refine zgj ?_
 refine zC ?_
 refine s_as ?_
 refine zf (zd (zh (zo ?_)))
 cases F1
 exact zk [] [] Tryz.results99
 iterate 4 refine r_no rfl ?_
 refine zD ?_
 refine s_as ?_
 refine zf (zd (zh (zo ?_)))
 cases F1
 exact zk [] [] Tryz.results99
def m_impl_dotsAt_1_AC (fuel:Nat):Prop:=∀ (x1:Form) (r:Bool),zc2 fuel x1=some r→AC Tryz.prog 140 [.ag [.t (.sc (.int .i64 x1.kind)),.t (.sc (.str x1.name)),.t (.sc (.int .i64 x1.n)),.t (.sl (x1.scopes.map rI)),.t (.sl (x1.kids.map Form.row))]] noOb (.t (.sc (.bool r))) noOb
theorem m_impl_dotsAt_1_ok (fuel:Nat):m_impl_dotsAt_1_AC fuel:=by
 intro x1 r F0
 unfold zc2 at F0
 refine AC_i [.t (.sc (.bool r))] Tryz.func140 rfl Tryz.ntmps140 ?_
 intro C hC
 refine zb (za ?_)
 refine zbo ?_
 refine s_as ?_
 refine zf (zd (zb (za ?_)))
 refine z6 yA37 yS37 ?_
 obtain ⟨v1,V1,F1⟩:=zc F0
 refine zy [] (zdK fuel _ _ _ V1) ?_
 refine s_as ?_
 refine zf (zd (zh (zo ?_)))
 cases F1
 exact zk [] [] Tryz.results140
def zfe (fuel:Nat):Prop:=∀ (x1:(List Form)) (r:Int),zaG fuel x1=some r→AC Tryz.prog 139 [.t (.sl (x1.map Form.row)),.fn 140 []] noOb (.t (.sc (.int .i64 r))) noOb
theorem zfd (fuel:Nat):zfe fuel:=by
 intro x1 r F0
 unfold zaG at F0
 refine AC_i [.t (.sc (.int .i64 r))] Tryz.func139 rfl Tryz.ntmps139 ?_
 intro C hC
 refine zb (za ?_)
 refine s_as ?_
 refine zf (zd (zb (zb (za ?_))))
 refine s_mv ?_
 refine zB yU35 ?_
 refine s_mv ?_
 refine zf (zd (zl ?_))
 refine zaE (β:=Int) [4,5,8,9,10,11,12,13,14,15,16,17,18] [] [] (fun a=>[(8,.t (.sc (.int .i64 a.2)))]) (fun a=>[]) (fun a=>a.1≤fuel∧zG a.1 x1 a.2=some r∧0≤a.2) (fuel,0) ⟨Nat.le_refl _,F0,by simp⟩ ?_
 clear F0
 rintro ⟨fu,g1⟩ ⟨hl2,F1,hn_g1⟩
 dsimp only at hl2 F1 hn_g1 ⊢
 obtain _ | fu:=fu
 · rw [zG] at F1;cases F1
 rw [zG] at F1
 refine zb (za ?_)
 refine s_lt ?_
 refine zf (zd (zb ?_))
 refine zn F1 ?_ ?_<;>intro C3 F2
 refine zH 0 (fun B4=>?_)
 refine zi (zd (zb (zl (zb (za ?_)))))
 refine s_mv ?_
 refine s_as ?_
 refine zf (zd (zb (za ?_)))
 iterate 3 refine s_mv ?_
 obtain ⟨v5,V5,F3⟩:=zc F2
 refine zN Form.row V5 (Form.row_eq _) yE35 ?_
 refine zaI yA37 yS37 ?_
 obtain ⟨v6,V6,F4⟩:=zc F3
 refine zy [] (m_impl_dotsAt_1_ok fu _ _ V6) ?_
 refine zf (zd ?_)
 refine zn F4 ?_ ?_<;>intro C7 F5
 refine zb (za ?_)
 refine s_mv ?_
 refine s_as ?_
 refine zf (zd (zh (zj (zg (zv (zj (zg (zo ?_))))))))
 cases F5
 exact zk [] [] Tryz.results139
 refine zi (zY (zd (za ?_)))
 refine zE (zaF C3 B4 hn_g1) ?_
 refine s_mv ?_
 refine zf ?_
 exact s_rn (fu,(g1+1)) ⟨by first | omega | (dsimp only;omega),F5,by first | omega | (dsimp only;omega)⟩
 refine zA (zr (zp (zu (zd (zb (za ?_))))))
 refine s_as ?_
 refine zf (zd (zh (zo ?_)))
 cases F2
 exact zk [] [] Tryz.results139
def m_impl_dotsAt_AC (fuel:Nat):Prop:=∀ (x1:(List Form)) (r:Int),zd1 fuel x1=some r→AC Tryz.prog 108 [.t (.sl (x1.map Form.row))] noOb (.t (.sc (.int .i64 r))) noOb
theorem zgc (fuel:Nat):m_impl_dotsAt_AC fuel:=by
 intro x1 r F0
 unfold zd1 at F0
 refine AC_i [.t (.sc (.int .i64 r))] Tryz.func108 rfl Tryz.ntmps108 ?_
 intro C hC
 refine zb (za ?_)
 refine s_as ?_
 refine zf (zd (zb (za ?_)))
 refine s_mv ?_
 obtain ⟨v1,V1,F1⟩:=zc F0
 refine zy [] (zfd fuel _ _ V1) ?_
 refine s_as ?_
 refine zf (zd (zh (zo ?_)))
 cases F1
 exact zk [] [] Tryz.results108
def ze8 (fuel:Nat):Prop:=∀ (x1:Form) (x2:Bool) (r:Bool),zdp fuel x1 x2=some r→AC Tryz.prog 100 [.ag [.t (.sc (.int .i64 x1.kind)),.t (.sc (.str x1.name)),.t (.sc (.int .i64 x1.n)),.t (.sl (x1.scopes.map rI)),.t (.sl (x1.kids.map Form.row))],.t (.sc (.bool x2))] noOb (.t (.sc (.bool r))) noOb
theorem m_impl_dotsOk_st (fu:Nat) (ih_m_impl_dotsOk:∀ k,k≤fu→ze8 k):ze8 (fu+1):=by
 intro x1 x2 r F0
 rw [zdp] at F0
 refine AC_i [.t (.sc (.bool r))] Tryz.func100 rfl Tryz.ntmps100 ?_
 intro C hC
 refine zb (za ?_)
 refine zbo ?_
 refine s_as ?_
 refine zf (zd (zb (zb (za ?_))))
 refine s_fa zJ ?_
 refine zq yA35 ?_
 refine zB yU35 ?_
 refine s_mv ?_
 refine zf (zd (zl ?_))
 refine zaE (β:=Int) [4,5,6,10,11,12,13,14,15,16,17,18,19,20,21,22,23,24,25,26,27,28,29,30,31,32,33,34,35,36,37,38,39,40,41,42,43] [] [6] (fun a=>[(10,.t (.sc (.int .i64 a.2)))]) (fun a=>[]) (fun a=>a.1≤fu∧zbB a.1 x1 x2 a.2=some r∧0≤a.2) (fu,0) ⟨Nat.le_refl _,F0,by simp⟩ ?_
 clear F0
 rintro ⟨fu,g1⟩ ⟨hl2,F1,hn_g1⟩
 dsimp only at hl2 F1 hn_g1 ⊢
 obtain _ | fu:=fu
 · rw [zbB] at F1;cases F1
 rw [zbB] at F1
 refine zb (za ?_)
 refine s_lt ?_
 refine zf (zd (zb ?_))
 refine zn F1 ?_ ?_<;>intro C3 F2
 refine zH 8 (fun B4=>?_)
 refine zi (zd (zb (zl (zb (za ?_)))))
 refine s_mv ?_
 obtain ⟨v5,V5,F3⟩:=zc F2
 refine zN Form.row V5 (Form.row_eq _) yE35 ?_
 refine zaI yA37 yS37 ?_
 refine zaN yZ37 ?_
 refine s_as ?_
 refine zde yS37 ?_
 refine zf (zd (zb (za ?_)))
 refine z6 yA37 yS37 ?_
 obtain ⟨v6,V6,F4⟩:=zc F3
 refine zy [] (zdK fu _ _ _ V6) ?_
 refine zf (zd ?_)
 refine zn F4 ?_ ?_<;>intro C7 F5
 refine zb (za ?_)
 refine s_mv ?_
 refine s_eq ?_
 refine s_mv ?_
 refine zx _ 19 F5 ?_ ?_<;>intro C8 F6
 iterate 7 refine r_no rfl ?_
 refine zC ?_
 refine s_mv ?_
 iterate 9 refine r_no rfl ?_
 refine zC ?_
 refine zf (zd (zaa rfl (zb (za ?_))))
 refine s_as ?_
 refine zf (zd (zh (zj (zg (zv (zj (zg (zo ?_))))))))
 cases F6
 exact zk [] [] Tryz.results100
 refine s_fa zJ ?_
 refine zq yA35 ?_
 refine s_mv ?_
 refine zfZ rfl ?_
 obtain ⟨v9,V9,F7⟩:=zc F6
 refine zN Form.row V9 (Form.row_eq _) yE35 ?_
 refine zaI yA37 yS37 ?_
 obtain ⟨v10,V10,F8⟩:=zc F7
 refine zy [] (zdK fu _ _ _ V10) ?_
 refine zD ?_
 refine s_mv ?_
 refine zx _ 28 F8 ?_ ?_<;>intro C11 F9
 iterate 9 refine r_no rfl ?_
 refine zC ?_
 refine zf (zd (zaa rfl (zb (za ?_))))
 refine s_as ?_
 refine zf (zd (zh (zj (zg (zv (zj (zg (zo ?_))))))))
 cases F9
 exact zk [] [] Tryz.results100
 refine s_mv ?_
 refine s_mv ?_
 refine zx _ 30 F9 ?_ ?_<;>intro C12 F10
 refine s_fa zJ ?_
 refine zq yA35 ?_
 refine s_mv ?_
 obtain ⟨v13,V13,F11⟩:=zc F10
 refine s_sl01 Form.row (fun y=>Form.row_len y) V13 yU35 yE35 ?_
 obtain ⟨v14,V14,F12⟩:=zc F11
 refine zy [] (zgc fu _ _ V14) ?_
 refine s_ge ?_
 refine zC ?_
 refine zD ?_
 refine zf (zd ?_)
 refine zn F12 ?_ ?_<;>intro C15 F13
 refine zb (za ?_)
 refine s_as ?_
 refine zf (zd (zh (zj (zg (zv (zj (zg (zo ?_))))))))
 cases F13
 exact zk [] [] Tryz.results100
 refine zi (zY (zd (za ?_)))
 refine zE (zaF C3 B4 hn_g1) ?_
 refine s_mv ?_
 refine zf ?_
 exact s_rn (fu,(g1+1)) ⟨by first | omega | (dsimp only;omega),F13,by first | omega | (dsimp only;omega)⟩
 iterate 6 refine r_no rfl ?_
 refine zD ?_
 refine zD ?_
 refine zf (zd (zcC rfl (zi (zY (zd (za ?_))))))
 refine zE (zaF C3 B4 hn_g1) ?_
 refine s_mv ?_
 refine zf ?_
 exact s_rn (fu,(g1+1)) ⟨by first | omega | (dsimp only;omega),F10,by first | omega | (dsimp only;omega)⟩
 refine zb (za ?_)
 refine z6 yA37 yS37 ?_
 refine s_mv ?_
 obtain ⟨v16,V16,F6⟩:=zc F5
 refine zy [] (ih_m_impl_dotsOk fu (by omega) _ _ _ V16) ?_
 refine zbh ?_
 refine zf (zd ?_)
 refine zn F6 ?_ ?_<;>intro C17 F7
 refine zb (za ?_)
 refine s_as ?_
 refine zf (zd (zh (zj (zg (zv (zj (zg (zo ?_))))))))
 cases F7
 exact zk [] [] Tryz.results100
 refine zi (zY (zd (za ?_)))
 refine zE (zaF C3 B4 hn_g1) ?_
 refine s_mv ?_
 refine zf ?_
 exact s_rn (fu,(g1+1)) ⟨by first | omega | (dsimp only;omega),F7,by first | omega | (dsimp only;omega)⟩
 refine zA (zr (zp (zu (zd (zb (za ?_))))))
 refine s_as ?_
 refine zf (zd (zh (zo ?_)))
 cases F2
 exact zk [] [] Tryz.results100
end Go.Abs
