/- A part of the proof: what the functions that the law calls answer, as pure values. -/
import Derived.Test.YtpdacpnncmemgaaGreatKe229a176054d
import Derived.Test.YtpdacpnncmemgaaGreatKa647db9ee9e6
import Derived.Test.YtpdacpnncmemgaaGreatKfaf2dbb53499
set_option linter.unusedSimpArgs false
set_option linter.unusedVariables false
set_option maxRecDepth 100000
set_option maxHeartbeats 4000000
namespace Go.Abs
open Go.Proofs
def zdE (fuel:Nat):Prop:=∀ (x1:Form) (x2:Form) (r:Bool),zap fuel x1 x2=some r→AC Tryz.prog 13 [.ag [.t (.sc (.int .i64 x1.kind)),.t (.sc (.str x1.name)),.t (.sc (.int .i64 x1.n)),.t (.sl (x1.scopes.map rI)),.t (.sl (x1.kids.map Form.row))],.ag [.t (.sc (.int .i64 x2.kind)),.t (.sc (.str x2.name)),.t (.sc (.int .i64 x2.n)),.t (.sl (x2.scopes.map rI)),.t (.sl (x2.kids.map Form.row))]] noOb (.t (.sc (.bool r))) noOb
def zbh (fuel:Nat):Prop:=∀ (x1:(List Form)) (x2:(List Form)) (r:Bool),zaT fuel x1 x2=some r→AC Tryz.prog 35 [.t (.sl (x1.map Form.row)),.t (.sl (x2.map Form.row)),.fn 13 []] noOb (.t (.sc (.bool r))) noOb
theorem m_impl_FormSame_st (fu:Nat) (ih_m_impl_FormSame:∀ k,k≤fu→zdE k) (ih_m_slices_EqualFunc_Form_FormSame:∀ k,k≤fu→zbh k):zdE (fu+1):=by
 intro x1 x2 r F0
 rw [zap] at F0
 refine AC_i [.t (.sc (.bool r))] Tryz.func13 rfl Tryz.ntmps13 ?_
 intro C hC
 refine zb (za ?_)
 refine za7 ?_
 refine za7 ?_
 refine s_as ?_
 refine zf (zd (zb (za ?_)))
 refine s_fa zcN ?_
 refine zu yA3 ?_
 refine s_fa zcN ?_
 refine zu yA3 ?_
 refine s_eq ?_
 refine s_mv ?_
 refine zo _ 10 F0 ?_ ?_<;>intro C1 F1
 refine s_fa zcB ?_
 refine zu yA9 ?_
 refine s_fa zcB ?_
 refine zu yA9 ?_
 refine zhn ?_
 refine zz ?_
 refine s_mv ?_
 refine zo _ 17 F1 ?_ ?_<;>intro C2 F2
 refine s_fa zgV ?_
 refine zu yA3 ?_
 refine s_fa zgV ?_
 refine zu yA3 ?_
 refine s_eq ?_
 refine zz ?_
 refine s_mv ?_
 refine zo _ 24 F2 ?_ ?_<;>intro C3 F3
 refine s_fa zgu ?_
 refine zu yA27 ?_
 refine s_fa zgu ?_
 refine zu yA27 ?_
 obtain ⟨v4,V4,F4⟩:=zc F3
 refine zx [] (zgL fu _ _ _ V4) ?_
 refine zz ?_
 refine s_mv ?_
 refine zo _ 31 F4 ?_ ?_<;>intro C5 F5
 refine s_fa zD ?_
 refine zu yA24 ?_
 refine s_fa zD ?_
 refine zu yA24 ?_
 obtain ⟨v6,V6,F6⟩:=zc F5
 refine zx [] (ih_m_slices_EqualFunc_Form_FormSame fu (by omega) _ _ _ V6) ?_
 refine zz ?_
 refine s_as ?_
 refine zf (zd (zh (zm ?_)))
 cases F6
 exact zk [] [] Tryz.results13
 iterate 5 refine r_no rfl ?_
 refine zy ?_
 refine s_as ?_
 refine zf (zd (zh (zm ?_)))
 cases F5
 exact zk [] [] Tryz.results13
 iterate 5 refine r_no rfl ?_
 refine zy ?_
 refine s_mv ?_
 iterate 5 refine r_no rfl ?_
 refine zy ?_
 refine s_as ?_
 refine zf (zd (zh (zm ?_)))
 cases F3
 exact zk [] [] Tryz.results13
 iterate 5 refine r_no rfl ?_
 refine zy ?_
 refine s_mv ?_
 iterate 5 refine r_no rfl ?_
 refine zy ?_
 refine s_mv ?_
 iterate 5 refine r_no rfl ?_
 refine zy ?_
 refine s_as ?_
 refine zf (zd (zh (zm ?_)))
 cases F2
 exact zk [] [] Tryz.results13
 iterate 5 refine r_no rfl ?_
 refine zy ?_
 refine s_mv ?_
 iterate 5 refine r_no rfl ?_
 refine zy ?_
 refine s_mv ?_
 iterate 5 refine r_no rfl ?_
 refine zy ?_
 refine s_mv ?_
 iterate 5 refine r_no rfl ?_
 refine zy ?_
 refine s_as ?_
 refine zf (zd (zh (zm ?_)))
 cases F1
 exact zk [] [] Tryz.results13
theorem zf4 (fu:Nat) (ih_m_impl_FormSame:∀ k,k≤fu→zdE k) (ih_m_slices_EqualFunc_Form_FormSame:∀ k,k≤fu→zbh k):zbh (fu+1):=by
 intro x1 x2 r F0
 rw [zaT] at F0
 refine AC_i [.t (.sc (.bool r))] Tryz.func35 rfl Tryz.ntmps35 ?_
 intro C hC
 refine zb (za ?_)
 refine s_as ?_
 refine zf (zd (zb (zb (za ?_))))
 refine s_mv ?_
 refine zF yU24 ?_
 refine s_mv ?_
 refine zF yU24 ?_
 refine s_ne ?_
 refine zf (zd ?_)
 refine zn F0 ?_ ?_<;>intro C1 F1
 refine zb (za ?_)
 refine s_as ?_
 refine zf (zd (zh (zg (zm ?_))))
 cases F1
 exact zk [] [] Tryz.results35
 refine zi (zd (zb (zb (za ?_))))
 refine s_mv ?_
 refine zF yU24 ?_
 refine s_mv ?_
 refine zf (zd (zl ?_))
 refine zaX (β:=Int) [6,7,8,9,17,18,19,20,21,22,23,24,25,26,27,28,29,30,31] [] [8,9] (fun a=>[(17,.t (.sc (.int .i64 a.2)))]) (fun a=>[]) (fun a=>a.1≤fu∧zaa a.1 x1 x2 a.2=some r∧0≤a.2) (fu,0) ⟨Nat.le_refl _,F1,by simp⟩ ?_
 clear F1
 rintro ⟨fu,g2⟩ ⟨hl3,F2,hn_g2⟩
 dsimp only at hl3 F2 hn_g2 ⊢
 obtain _ | fu:=fu
 · rw [zaa] at F2;cases F2
 rw [zaa] at F2
 refine zb (za ?_)
 refine s_lt ?_
 refine zf (zd (zb ?_))
 refine zn F2 ?_ ?_<;>intro C4 F3
 refine zN 0 (fun B5=>?_)
 refine zi (zd (zb (zl (zb (za ?_)))))
 refine s_mv ?_
 obtain ⟨v6,V6,F4⟩:=zc F3
 refine zR Form.row V6 (Form.row_eq _) yE24 ?_
 refine zak yA32 yS32 ?_
 refine z4 yZ32 ?_
 refine s_as ?_
 refine zal yS32 ?_
 refine zf (zd (zb (za ?_)))
 refine s_mv ?_
 refine s_mv ?_
 obtain ⟨v7,V7,F5⟩:=zc F4
 refine zR Form.row V7 (Form.row_eq _) yE24 ?_
 refine zak yA32 yS32 ?_
 refine z4 yZ32 ?_
 refine zal yS32 ?_
 refine zf (zd (zb (za ?_)))
 refine s_mv ?_
 refine zI yA32 yS32 ?_
 refine zI yA32 yS32 ?_
 obtain ⟨v8,V8,F6⟩:=zc F5
 refine zx [] (ih_m_impl_FormSame fu (by omega) _ _ _ V8) ?_
 refine za3 ?_
 refine zf (zd ?_)
 refine zn F6 ?_ ?_<;>intro C9 F7
 refine zb (za ?_)
 refine s_as ?_
 refine zf (zd (zh (zj (zg (zw (zj (zg (zm ?_))))))))
 cases F7
 exact zk [] [] Tryz.results35
 refine zi (zU (zd (za ?_)))
 refine zH (zaq C4 B5 hn_g2) ?_
 refine s_mv ?_
 refine zf ?_
 exact s_rn (fu,(g2+1)) ⟨by first | omega | (dsimp only;omega),F7,by first | omega | (dsimp only;omega)⟩
 refine zA (zq (zp (zr (zd (zb (za ?_))))))
 refine s_as ?_
 refine zf (zd (zh (zm ?_)))
 cases F3
 exact zk [] [] Tryz.results35
theorem m_impl_FormSame_all (fuel:Nat):zdE fuel∧zbh fuel:=by
 induction fuel using Nat.strongRecOn with
 | _ N ih =>
   cases N with
   | zero=>exact ⟨(by intro x1 x2 r h;rw [zap] at h;cases h),(by intro x1 x2 r h;rw [zaT] at h;cases h)⟩
   | succ fu=>exact ⟨m_impl_FormSame_st fu (fun k hk=>(ih k (by omega)).1) (fun k hk=>(ih k (by omega)).2),zf4 fu (fun k hk=>(ih k (by omega)).1) (fun k hk=>(ih k (by omega)).2)⟩
theorem zbz (fuel:Nat):zdE fuel:=(m_impl_FormSame_all fuel).1
def m_impl_isIn_1_AC (fuel:Nat):Prop:=∀ (x1:Form) (o1:Form) (r:Bool),zgo fuel x1 o1=some r→AC Tryz.prog 131 [.ag [.t (.sc (.int .i64 x1.kind)),.t (.sc (.str x1.name)),.t (.sc (.int .i64 x1.n)),.t (.sl (x1.scopes.map rI)),.t (.sl (x1.kids.map Form.row))],.rf 9000 0] (objs [(9000,.box [.t (.sc (.int .i64 o1.kind)),.t (.sc (.str o1.name)),.t (.sc (.int .i64 o1.n)),.t (.sl (o1.scopes.map rI)),.t (.sl (o1.kids.map Form.row))])]) (.t (.sc (.bool r))) (objs [(9000,.box [.t (.sc (.int .i64 o1.kind)),.t (.sc (.str o1.name)),.t (.sc (.int .i64 o1.n)),.t (.sl (o1.scopes.map rI)),.t (.sl (o1.kids.map Form.row))])])
theorem m_impl_isIn_1_ok (fuel:Nat):m_impl_isIn_1_AC fuel:=by
 intro x1 o1 r F0
 unfold zgo at F0
 refine AC_i [.t (.sc (.bool r))] Tryz.func131 rfl Tryz.ntmps131 ?_
 intro C hC
 refine zb (za ?_)
 refine za7 ?_
 refine s_as ?_
 refine zf (zd (zb (za ?_)))
 refine zI yA32 yS32 ?_
 refine zI yA32 yS32 ?_
 obtain ⟨v1,V1,F1⟩:=zc F0
 refine zx [] (zbz fuel _ _ _ V1) ?_
 refine s_as ?_
 refine zf (zd (zh (zm ?_)))
 cases F1
 exact zk _ [] Tryz.results131
def zgl (fuel:Nat):Prop:=∀ (x1:(List Form)) (o1:Form) (r:Int),zbS fuel x1 o1=some r→AC Tryz.prog 134 [.t (.sl (x1.map Form.row)),.fn 131 [.rf 9000 0]] (objs [(9000,.box [.t (.sc (.int .i64 o1.kind)),.t (.sc (.str o1.name)),.t (.sc (.int .i64 o1.n)),.t (.sl (o1.scopes.map rI)),.t (.sl (o1.kids.map Form.row))])]) (.t (.sc (.int .i64 r))) (objs [(9000,.box [.t (.sc (.int .i64 o1.kind)),.t (.sc (.str o1.name)),.t (.sc (.int .i64 o1.n)),.t (.sl (o1.scopes.map rI)),.t (.sl (o1.kids.map Form.row))])])
theorem zgk (fuel:Nat):zgl fuel:=by
 intro x1 o1 r F0
 unfold zbS at F0
 refine AC_i [.t (.sc (.int .i64 r))] Tryz.func134 rfl Tryz.ntmps134 ?_
 intro C hC
 refine zb (za ?_)
 refine s_as ?_
 refine zf (zd (zb (zb (za ?_))))
 refine s_mv ?_
 refine zF yU24 ?_
 refine s_mv ?_
 refine zf (zd (zl ?_))
 refine zaX (β:=Int) [4,5,8,9,10,11,12,13,14,15,16,17,18] [] [] (fun a=>[(8,.t (.sc (.int .i64 a.2)))]) (fun a=>[]) (fun a=>a.1≤fuel∧zaf a.1 x1 o1 a.2=some r∧0≤a.2) (fuel,0) ⟨Nat.le_refl _,F0,by simp⟩ ?_
 clear F0
 rintro ⟨fu,g1⟩ ⟨hl2,F1,hn_g1⟩
 dsimp only at hl2 F1 hn_g1 ⊢
 obtain _ | fu:=fu
 · rw [zaf] at F1;cases F1
 rw [zaf] at F1
 refine zb (za ?_)
 refine s_lt ?_
 refine zf (zd (zb ?_))
 refine zn F1 ?_ ?_<;>intro C3 F2
 refine zN 0 (fun B4=>?_)
 refine zi (zd (zb (zl (zb (za ?_)))))
 refine s_mv ?_
 refine s_as ?_
 refine zf (zd (zb (za ?_)))
 iterate 3 refine s_mv ?_
 obtain ⟨v5,V5,F3⟩:=zc F2
 refine zR Form.row V5 (Form.row_eq _) yE24 ?_
 refine zak yA32 yS32 ?_
 obtain ⟨v6,V6,F4⟩:=zc F3
 refine zL [(9000,9000)] [] _ _ (m_impl_isIn_1_ok fu _ _ _ V6) ?_
 refine zf (zd ?_)
 refine zn F4 ?_ ?_<;>intro C7 F5
 refine zb (za ?_)
 refine s_mv ?_
 refine s_as ?_
 refine zf (zd (zh (zj (zg (zw (zj (zg (zm ?_))))))))
 cases F5
 exact zk _ [] Tryz.results134
 refine zi (zU (zd (za ?_)))
 refine zH (zaq C3 B4 hn_g1) ?_
 refine s_mv ?_
 refine zf ?_
 exact s_rn (fu,(g1+1)) ⟨by first | omega | (dsimp only;omega),F5,by first | omega | (dsimp only;omega)⟩
 refine zA (zq (zp (zr (zd (zb (za ?_))))))
 refine s_as ?_
 refine zf (zd (zh (zm ?_)))
 cases F2
 exact zk _ [] Tryz.results134
def zfG (fuel:Nat):Prop:=∀ (x1:(List Form)) (o1:Form) (r:Bool),zbx fuel x1 o1=some r→AC Tryz.prog 130 [.t (.sl (x1.map Form.row)),.fn 131 [.rf 9000 0]] (objs [(9000,.box [.t (.sc (.int .i64 o1.kind)),.t (.sc (.str o1.name)),.t (.sc (.int .i64 o1.n)),.t (.sl (o1.scopes.map rI)),.t (.sl (o1.kids.map Form.row))])]) (.t (.sc (.bool r))) (objs [(9000,.box [.t (.sc (.int .i64 o1.kind)),.t (.sc (.str o1.name)),.t (.sc (.int .i64 o1.n)),.t (.sl (o1.scopes.map rI)),.t (.sl (o1.kids.map Form.row))])])
theorem zfF (fuel:Nat):zfG fuel:=by
 intro x1 o1 r F0
 unfold zbx at F0
 refine AC_i [.t (.sc (.bool r))] Tryz.func130 rfl Tryz.ntmps130 ?_
 intro C hC
 refine zb (za ?_)
 refine s_as ?_
 refine zf (zd (zb (za ?_)))
 refine s_mv ?_
 refine s_mv ?_
 obtain ⟨v1,V1,F1⟩:=zc F0
 refine zL [(9000,9000)] [] _ _ (zgk fuel _ _ _ V1) ?_
 refine s_ge ?_
 refine s_as ?_
 refine zf (zd (zh (zm ?_)))
 cases F1
 exact zk _ [] Tryz.results130
def m_impl_isIn_AC (fuel:Nat):Prop:=∀ (x1:(List Form)) (x2:Form) (r:Bool),zff fuel x1 x2=some r→AC Tryz.prog 75 [.t (.sl (x1.map Form.row)),.ag [.t (.sc (.int .i64 x2.kind)),.t (.sc (.str x2.name)),.t (.sc (.int .i64 x2.n)),.t (.sl (x2.scopes.map rI)),.t (.sl (x2.kids.map Form.row))]] noOb (.t (.sc (.bool r))) noOb
theorem zgH (fuel:Nat):m_impl_isIn_AC fuel:=by
 intro x1 x2 r F0
 unfold zff at F0
 refine AC_i [.t (.sc (.bool r))] Tryz.func75 rfl Tryz.ntmps75 ?_
 intro C hC
 refine zb (za ?_)
 refine za7 ?_
 refine s_as ?_
 refine zf (zd (zb (za ?_)))
 refine s_mv ?_
 refine s_fn ?_
 obtain ⟨v1,V1,F1⟩:=zc F0
 refine zL [(9000,3)] [] _ _ (zfF fuel _ _ _ V1) ?_
 refine s_as ?_
 refine zf (zd (zh (zm ?_)))
 cases F1
 exact zk [] [] Tryz.results75
def m_impl_literalsOk_AC (fuel:Nat):Prop:=∀ (x1:(List Form)) (r:Bool),zdi fuel x1=some r→AC Tryz.prog 64 [.t (.sl (x1.map Form.row))] noOb (.t (.sc (.bool r))) noOb
theorem zgZ (fuel:Nat):m_impl_literalsOk_AC fuel:=by
 intro x1 r F0
 unfold zdi at F0
 refine AC_i [.t (.sc (.bool r))] Tryz.func64 rfl Tryz.ntmps64 ?_
 intro C hC
 refine zb (za ?_)
 refine s_as ?_
 refine zf (zd (zb (zb (za ?_))))
 refine s_mv ?_
 refine zF yU24 ?_
 refine s_mv ?_
 refine zf (zd (zl ?_))
 refine zaX (β:=Int) [2,3,4,7,8,9,10,11,12,13,14,15,16,17,18,19,20,21,22,23,24,25,26,27,28,29,30,31,32] [] [4] (fun a=>[(7,.t (.sc (.int .i64 a.2)))]) (fun a=>[]) (fun a=>a.1≤fuel∧zbq a.1 x1 a.2=some r∧0≤a.2) (fuel,0) ⟨Nat.le_refl _,F0,by simp⟩ ?_
 clear F0
 rintro ⟨fu,g1⟩ ⟨hl2,F1,hn_g1⟩
 dsimp only at hl2 F1 hn_g1 ⊢
 obtain _ | fu:=fu
 · rw [zbq] at F1;cases F1
 rw [zbq] at F1
 refine zb (za ?_)
 refine s_lt ?_
 refine zf (zd (zb ?_))
 refine zn F1 ?_ ?_<;>intro C3 F2
 refine zN 0 (fun B4=>?_)
 refine zi (zd (zb (zl (zb (za ?_)))))
 refine s_mv ?_
 obtain ⟨v5,V5,F3⟩:=zc F2
 refine zR Form.row V5 (Form.row_eq _) yE24 ?_
 refine zak yA32 yS32 ?_
 refine z4 yZ32 ?_
 refine s_as ?_
 refine zal yS32 ?_
 refine zf (zd (zb ?_))
 refine zZ yMix (by kernel_rfl) ?_
 refine zI yA32 yS32 ?_
 obtain ⟨v6,V6,F4⟩:=zc F3
 refine zx [] (zez fu _ _ V6) ?_
 refine za3 ?_
 refine s_mv ?_
 refine zo _ 15 F4 ?_ ?_<;>intro C7 F5
 iterate 3 refine r_no rfl ?_
 refine zz ?_
 refine s_mv ?_
 iterate 3 refine r_no rfl ?_
 refine zz ?_
 refine s_mv ?_
 iterate 5 refine r_no rfl ?_
 refine zz ?_
 refine zam (by kernel_rfl) ?_
 refine zd (zK rfl (zb (za ?_)))
 refine s_as ?_
 refine zf (zd (zh (zj (zg (zw (zj (zg (zm ?_))))))))
 cases F5
 exact zk [] [] Tryz.results64
 refine s_fa zcB ?_
 refine zu yA9 ?_
 refine zhn ?_
 refine zy ?_
 refine s_mv ?_
 refine zo _ 20 F5 ?_ ?_<;>intro C8 F6
 iterate 3 refine r_no rfl ?_
 refine zz ?_
 refine s_mv ?_
 iterate 5 refine r_no rfl ?_
 refine zz ?_
 refine zam (by kernel_rfl) ?_
 refine zd (zK rfl (zb (za ?_)))
 refine s_as ?_
 refine zf (zd (zh (zj (zg (zw (zj (zg (zm ?_))))))))
 cases F6
 exact zk [] [] Tryz.results64
 refine s_fa zcB ?_
 refine zu yA9 ?_
 refine zhn ?_
 refine zy ?_
 refine s_mv ?_
 refine zo _ 25 F6 ?_ ?_<;>intro C9 F7
 iterate 5 refine r_no rfl ?_
 refine zz ?_
 refine zam (by kernel_rfl) ?_
 refine zd (zK rfl (zb (za ?_)))
 refine s_as ?_
 refine zf (zd (zh (zj (zg (zw (zj (zg (zm ?_))))))))
 cases F7
 exact zk [] [] Tryz.results64
 refine s_mv ?_
 refine s_mv ?_
 obtain ⟨v10,V10,F8⟩:=zc F7
 refine s_sl01 Form.row (fun y=>Form.row_len y) V10 yU24 yE24 ?_
 refine zI yA32 yS32 ?_
 obtain ⟨v11,V11,F9⟩:=zc F8
 refine zx [] (zgH fu _ _ _ V11) ?_
 refine zy ?_
 refine zam (by kernel_rfl) ?_
 refine zd ?_
 refine zn F9 ?_ ?_<;>intro C12 F10
 refine zb (za ?_)
 refine s_as ?_
 refine zf (zd (zh (zj (zg (zw (zj (zg (zm ?_))))))))
 cases F10
 exact zk [] [] Tryz.results64
 refine zi (zU (zd (za ?_)))
 refine zH (zaq C3 B4 hn_g1) ?_
 refine s_mv ?_
 refine zf ?_
 exact s_rn (fu,(g1+1)) ⟨by first | omega | (dsimp only;omega),F10,by first | omega | (dsimp only;omega)⟩
 refine zA (zq (zp (zr (zd (zb (za ?_))))))
 refine s_mv ?_
 refine zF yU24 ?_
 refine s_le ?_
 refine s_as ?_
 refine zf (zd (zh (zm ?_)))
 cases F2
 exact zk [] [] Tryz.results64
def m_impl_named_AC (fuel:Nat):Prop:=∀ (x1:Form) (x2:ByteArray) (r:Bool),zbb fuel x1 x2=some r→AC Tryz.prog 69 [.ag [.t (.sc (.int .i64 x1.kind)),.t (.sc (.str x1.name)),.t (.sc (.int .i64 x1.n)),.t (.sl (x1.scopes.map rI)),.t (.sl (x1.kids.map Form.row))],.t (.sc (.str x2))] noOb (.t (.sc (.bool r))) noOb
theorem zaM (fuel:Nat):m_impl_named_AC fuel:=by
 intro x1 x2 r F0
 unfold zbb at F0
 refine AC_i [.t (.sc (.bool r))] Tryz.func69 rfl Tryz.ntmps69 ?_
 intro C hC
 refine zb (za ?_)
 refine za7 ?_
 refine s_as ?_
 refine zf (zd (zb (za ?_)))
 refine s_fa zcN ?_
 refine zu yA3 ?_
 refine s_eq ?_
 refine s_mv ?_
 refine zo _ 8 F0 ?_ ?_<;>intro C1 F1
 refine s_fa zcB ?_
 refine zu yA9 ?_
 refine s_mv ?_
 refine zhn ?_
 refine zz ?_
 refine s_as ?_
 refine zf (zd (zh (zm ?_)))
 cases F1
 exact zk [] [] Tryz.results69
 iterate 4 refine r_no rfl ?_
 refine zy ?_
 refine s_as ?_
 refine zf (zd (zh (zm ?_)))
 cases F1
 exact zk [] [] Tryz.results69
def m_impl_dotsAt_1_AC (fuel:Nat):Prop:=∀ (x1:Form) (r:Bool),zdp fuel x1=some r→AC Tryz.prog 135 [.ag [.t (.sc (.int .i64 x1.kind)),.t (.sc (.str x1.name)),.t (.sc (.int .i64 x1.n)),.t (.sl (x1.scopes.map rI)),.t (.sl (x1.kids.map Form.row))]] noOb (.t (.sc (.bool r))) noOb
theorem m_impl_dotsAt_1_ok (fuel:Nat):m_impl_dotsAt_1_AC fuel:=by
 intro x1 r F0
 unfold zdp at F0
 refine AC_i [.t (.sc (.bool r))] Tryz.func135 rfl Tryz.ntmps135 ?_
 intro C hC
 refine zb (za ?_)
 refine za7 ?_
 refine s_as ?_
 refine zf (zd (zb (za ?_)))
 refine zI yA32 yS32 ?_
 obtain ⟨v1,V1,F1⟩:=zc F0
 refine zx [] (zaM fuel _ _ _ V1) ?_
 refine s_as ?_
 refine zf (zd (zh (zm ?_)))
 cases F1
 exact zk [] [] Tryz.results135
def zf3 (fuel:Nat):Prop:=∀ (x1:(List Form)) (r:Int),zaS fuel x1=some r→AC Tryz.prog 134 [.t (.sl (x1.map Form.row)),.fn 135 []] noOb (.t (.sc (.int .i64 r))) noOb
theorem zf2 (fuel:Nat):zf3 fuel:=by
 intro x1 r F0
 unfold zaS at F0
 refine AC_i [.t (.sc (.int .i64 r))] Tryz.func134 rfl Tryz.ntmps134 ?_
 intro C hC
 refine zb (za ?_)
 refine s_as ?_
 refine zf (zd (zb (zb (za ?_))))
 refine s_mv ?_
 refine zF yU24 ?_
 refine s_mv ?_
 refine zf (zd (zl ?_))
 refine zaX (β:=Int) [4,5,8,9,10,11,12,13,14,15,16,17,18] [] [] (fun a=>[(8,.t (.sc (.int .i64 a.2)))]) (fun a=>[]) (fun a=>a.1≤fuel∧zJ a.1 x1 a.2=some r∧0≤a.2) (fuel,0) ⟨Nat.le_refl _,F0,by simp⟩ ?_
 clear F0
 rintro ⟨fu,g1⟩ ⟨hl2,F1,hn_g1⟩
 dsimp only at hl2 F1 hn_g1 ⊢
 obtain _ | fu:=fu
 · rw [zJ] at F1;cases F1
 rw [zJ] at F1
 refine zb (za ?_)
 refine s_lt ?_
 refine zf (zd (zb ?_))
 refine zn F1 ?_ ?_<;>intro C3 F2
 refine zN 0 (fun B4=>?_)
 refine zi (zd (zb (zl (zb (za ?_)))))
 refine s_mv ?_
 refine s_as ?_
 refine zf (zd (zb (za ?_)))
 iterate 3 refine s_mv ?_
 obtain ⟨v5,V5,F3⟩:=zc F2
 refine zR Form.row V5 (Form.row_eq _) yE24 ?_
 refine zak yA32 yS32 ?_
 obtain ⟨v6,V6,F4⟩:=zc F3
 refine zx [] (m_impl_dotsAt_1_ok fu _ _ V6) ?_
 refine zf (zd ?_)
 refine zn F4 ?_ ?_<;>intro C7 F5
 refine zb (za ?_)
 refine s_mv ?_
 refine s_as ?_
 refine zf (zd (zh (zj (zg (zw (zj (zg (zm ?_))))))))
 cases F5
 exact zk [] [] Tryz.results134
 refine zi (zU (zd (za ?_)))
 refine zH (zaq C3 B4 hn_g1) ?_
 refine s_mv ?_
 refine zf ?_
 exact s_rn (fu,(g1+1)) ⟨by first | omega | (dsimp only;omega),F5,by first | omega | (dsimp only;omega)⟩
 refine zA (zq (zp (zr (zd (zb (za ?_))))))
 refine s_as ?_
 refine zf (zd (zh (zm ?_)))
 cases F2
 exact zk [] [] Tryz.results134
def m_impl_dotsAt_AC (fuel:Nat):Prop:=∀ (x1:(List Form)) (r:Int),zd9 fuel x1=some r→AC Tryz.prog 79 [.t (.sl (x1.map Form.row))] noOb (.t (.sc (.int .i64 r))) noOb
theorem m_impl_dotsAt_ok (fuel:Nat):m_impl_dotsAt_AC fuel:=by
 intro x1 r F0
 unfold zd9 at F0
 refine AC_i [.t (.sc (.int .i64 r))] Tryz.func79 rfl Tryz.ntmps79 ?_
 intro C hC
 refine zb (za ?_)
 refine s_as ?_
 refine zf (zd (zb (za ?_)))
 refine s_mv ?_
 obtain ⟨v1,V1,F1⟩:=zc F0
 refine zx [] (zf2 fuel _ _ V1) ?_
 refine s_as ?_
 refine zf (zd (zh (zm ?_)))
 cases F1
 exact zk [] [] Tryz.results79
def zfY (fuel:Nat):Prop:=∀ (x1:Form) (x2:Bool) (r:Bool),zc5 fuel x1 x2=some r→AC Tryz.prog 112 [.ag [.t (.sc (.int .i64 x1.kind)),.t (.sc (.str x1.name)),.t (.sc (.int .i64 x1.n)),.t (.sl (x1.scopes.map rI)),.t (.sl (x1.kids.map Form.row))],.t (.sc (.bool x2))] noOb (.t (.sc (.bool r))) noOb
theorem m_impl_dotsOk_st (fu:Nat) (ih_m_impl_dotsOk:∀ k,k≤fu→zfY k):zfY (fu+1):=by
 intro x1 x2 r F0
 rw [zc5] at F0
 refine AC_i [.t (.sc (.bool r))] Tryz.func112 rfl Tryz.ntmps112 ?_
 intro C hC
 refine zb (za ?_)
 refine za7 ?_
 refine s_as ?_
 refine zf (zd (zb (zb (za ?_))))
 refine s_fa zD ?_
 refine zu yA24 ?_
 refine zF yU24 ?_
 refine s_mv ?_
 refine zf (zd (zl ?_))
 refine zaX (β:=Int) [4,5,6,10,11,12,13,14,15,16,17,18,19,20,21,22,23,24,25,26,27,28,29,30,31,32,33,34,35,36,37,38,39,40,41,42,43] [] [6] (fun a=>[(10,.t (.sc (.int .i64 a.2)))]) (fun a=>[]) (fun a=>a.1≤fu∧zbK a.1 x1 x2 a.2=some r∧0≤a.2) (fu,0) ⟨Nat.le_refl _,F0,by simp⟩ ?_
 clear F0
 rintro ⟨fu,g1⟩ ⟨hl2,F1,hn_g1⟩
 dsimp only at hl2 F1 hn_g1 ⊢
 obtain _ | fu:=fu
 · rw [zbK] at F1;cases F1
 rw [zbK] at F1
 refine zb (za ?_)
 refine s_lt ?_
 refine zf (zd (zb ?_))
 refine zn F1 ?_ ?_<;>intro C3 F2
 refine zN 8 (fun B4=>?_)
 refine zi (zd (zb (zl (zb (za ?_)))))
 refine s_mv ?_
 obtain ⟨v5,V5,F3⟩:=zc F2
 refine zR Form.row V5 (Form.row_eq _) yE24 ?_
 refine zak yA32 yS32 ?_
 refine z4 yZ32 ?_
 refine s_as ?_
 refine zal yS32 ?_
 refine zf (zd (zb (za ?_)))
 refine zI yA32 yS32 ?_
 obtain ⟨v6,V6,F4⟩:=zc F3
 refine zx [] (zaM fu _ _ _ V6) ?_
 refine zf (zd ?_)
 refine zn F4 ?_ ?_<;>intro C7 F5
 refine zb (za ?_)
 refine s_mv ?_
 refine s_eq ?_
 refine s_mv ?_
 refine zo _ 19 F5 ?_ ?_<;>intro C8 F6
 iterate 7 refine r_no rfl ?_
 refine zz ?_
 refine s_mv ?_
 iterate 9 refine r_no rfl ?_
 refine zz ?_
 refine zf (zd (zK rfl (zb (za ?_))))
 refine s_as ?_
 refine zf (zd (zh (zj (zg (zw (zj (zg (zm ?_))))))))
 cases F6
 exact zk [] [] Tryz.results112
 refine s_fa zD ?_
 refine zu yA24 ?_
 refine s_mv ?_
 refine s_sub rfl ?_
 obtain ⟨v9,V9,F7⟩:=zc F6
 refine zR Form.row V9 (Form.row_eq _) yE24 ?_
 refine zak yA32 yS32 ?_
 obtain ⟨v10,V10,F8⟩:=zc F7
 refine zx [] (zaM fu _ _ _ V10) ?_
 refine zy ?_
 refine s_mv ?_
 refine zo _ 28 F8 ?_ ?_<;>intro C11 F9
 iterate 9 refine r_no rfl ?_
 refine zz ?_
 refine zf (zd (zK rfl (zb (za ?_))))
 refine s_as ?_
 refine zf (zd (zh (zj (zg (zw (zj (zg (zm ?_))))))))
 cases F9
 exact zk [] [] Tryz.results112
 refine s_mv ?_
 refine s_mv ?_
 refine zo _ 30 F9 ?_ ?_<;>intro C12 F10
 refine s_fa zD ?_
 refine zu yA24 ?_
 refine s_mv ?_
 obtain ⟨v13,V13,F11⟩:=zc F10
 refine s_sl01 Form.row (fun y=>Form.row_len y) V13 yU24 yE24 ?_
 obtain ⟨v14,V14,F12⟩:=zc F11
 refine zx [] (m_impl_dotsAt_ok fu _ _ V14) ?_
 refine s_ge ?_
 refine zz ?_
 refine zy ?_
 refine zf (zd ?_)
 refine zn F12 ?_ ?_<;>intro C15 F13
 refine zb (za ?_)
 refine s_as ?_
 refine zf (zd (zh (zj (zg (zw (zj (zg (zm ?_))))))))
 cases F13
 exact zk [] [] Tryz.results112
 refine zi (zU (zd (za ?_)))
 refine zH (zaq C3 B4 hn_g1) ?_
 refine s_mv ?_
 refine zf ?_
 exact s_rn (fu,(g1+1)) ⟨by first | omega | (dsimp only;omega),F13,by first | omega | (dsimp only;omega)⟩
 iterate 6 refine r_no rfl ?_
 refine zy ?_
 refine zy ?_
 refine zf (zd (zaP rfl (zi (zU (zd (za ?_))))))
 refine zH (zaq C3 B4 hn_g1) ?_
 refine s_mv ?_
 refine zf ?_
 exact s_rn (fu,(g1+1)) ⟨by first | omega | (dsimp only;omega),F10,by first | omega | (dsimp only;omega)⟩
 refine zb (za ?_)
 refine zI yA32 yS32 ?_
 refine s_mv ?_
 obtain ⟨v16,V16,F6⟩:=zc F5
 refine zx [] (ih_m_impl_dotsOk fu (by omega) _ _ _ V16) ?_
 refine za3 ?_
 refine zf (zd ?_)
 refine zn F6 ?_ ?_<;>intro C17 F7
 refine zb (za ?_)
 refine s_as ?_
 refine zf (zd (zh (zj (zg (zw (zj (zg (zm ?_))))))))
 cases F7
 exact zk [] [] Tryz.results112
 refine zi (zU (zd (za ?_)))
 refine zH (zaq C3 B4 hn_g1) ?_
 refine s_mv ?_
 refine zf ?_
 exact s_rn (fu,(g1+1)) ⟨by first | omega | (dsimp only;omega),F7,by first | omega | (dsimp only;omega)⟩
 refine zA (zq (zp (zr (zd (zb (za ?_))))))
 refine s_as ?_
 refine zf (zd (zh (zm ?_)))
 cases F2
 exact zk [] [] Tryz.results112
theorem m_impl_dotsOk_all (fuel:Nat):zfY fuel:=by
 induction fuel using Nat.strongRecOn with
 | _ N ih =>
   cases N with
   | zero=>exact (by intro x1 x2 r h;rw [zc5] at h;cases h)
   | succ fu=>exact m_impl_dotsOk_st fu (fun k hk=>(ih k (by omega)))
theorem m_impl_dotsOk_ok (fuel:Nat):zfY fuel:=(m_impl_dotsOk_all fuel)
def m_impl_isVar_AC (fuel:Nat):Prop:=∀ (x1:Form) (x2:(List Form)) (r:Bool),zf7 fuel x1 x2=some r→AC Tryz.prog 68 [.ag [.t (.sc (.int .i64 x1.kind)),.t (.sc (.str x1.name)),.t (.sc (.int .i64 x1.n)),.t (.sl (x1.scopes.map rI)),.t (.sl (x1.kids.map Form.row))],.t (.sl (x2.map Form.row))] noOb (.t (.sc (.bool r))) noOb
theorem m_impl_isVar_ok (fuel:Nat):m_impl_isVar_AC fuel:=by
 intro x1 x2 r F0
 unfold zf7 at F0
 refine AC_i [.t (.sc (.bool r))] Tryz.func68 rfl Tryz.ntmps68 ?_
 intro C hC
 refine zb (za ?_)
 refine za7 ?_
 refine s_as ?_
 refine zf (zd (zb (za ?_)))
 refine s_fa zcN ?_
 refine zu yA3 ?_
 refine s_eq ?_
 refine s_mv ?_
 refine zo _ 8 F0 ?_ ?_<;>intro C1 F1
 refine s_fa zcB ?_
 refine zu yA9 ?_
 refine s_neS ?_
 refine zz ?_
 refine s_mv ?_
 refine zo _ 13 F1 ?_ ?_<;>intro C2 F2
 refine s_fa zcB ?_
 refine zu yA9 ?_
 refine s_neS ?_
 refine zz ?_
 refine s_mv ?_
 refine zo _ 18 F2 ?_ ?_<;>intro C3 F3
 refine s_mv ?_
 refine zI yA32 yS32 ?_
 obtain ⟨v4,V4,F4⟩:=zc F3
 refine zx [] (zgH fuel _ _ _ V4) ?_
 refine za3 ?_
 refine zz ?_
 refine s_as ?_
 refine zf (zd (zh (zm ?_)))
 cases F4
 exact zk [] [] Tryz.results68
 iterate 4 refine r_no rfl ?_
 refine zy ?_
 refine s_as ?_
 refine zf (zd (zh (zm ?_)))
 cases F3
 exact zk [] [] Tryz.results68
 iterate 3 refine r_no rfl ?_
 refine zy ?_
 refine s_mv ?_
 iterate 4 refine r_no rfl ?_
 refine zy ?_
 refine s_as ?_
 refine zf (zd (zh (zm ?_)))
 cases F2
 exact zk [] [] Tryz.results68
 iterate 3 refine r_no rfl ?_
 refine zy ?_
 refine s_mv ?_
 iterate 3 refine r_no rfl ?_
 refine zy ?_
 refine s_mv ?_
 iterate 4 refine r_no rfl ?_
 refine zy ?_
 refine s_as ?_
 refine zf (zd (zh (zm ?_)))
 cases F1
 exact zk [] [] Tryz.results68
def zdC (fuel:Nat):Prop:=∀ (x1:Form) (x2:(List Form)) (x3:Int) (o1:(List Form)) (o2:(List Int)) (r:((List Form) × (List Int))),za6 fuel x1 x2 x3 o1 o2=some r→AC Tryz.prog 136 [.ag [.t (.sc (.int .i64 x1.kind)),.t (.sc (.str x1.name)),.t (.sc (.int .i64 x1.n)),.t (.sl (x1.scopes.map rI)),.t (.sl (x1.kids.map Form.row))],.t (.sl (x2.map Form.row)),.t (.sc (.int .i64 x3)),.rf 9000 0,.rf 9001 0] (objs [(9000,.box [.ar 9420]),(9420,.arr (o1.map Form.row) 32 true),(9001,.box [.ar 9440]),(9440,.arr (o2.map rI) 3 true)]) (.tp []) (objs [(9000,.box [.ar 10420]),(9420,.dead),(9001,.box [.ar 10440]),(9440,.dead),(10420,.arr (r.1.map Form.row) 32 true),(10440,.arr (r.2.map rI) 3 true)])
theorem m_impl_patternVars_st (fu:Nat) (ih_m_impl_patternVars:∀ k,k≤fu→zdC k):zdC (fu+1):=by
 intro x1 x2 x3 o1 o2 r F0
 rw [za6] at F0
 refine AC_i [] Tryz.func136 rfl Tryz.ntmps136 ?_
 intro C hC
 refine zb (za ?_)
 refine za7 ?_
 refine zf (zd (zb (zb (za ?_))))
 refine zI yA32 yS32 ?_
 refine s_mv ?_
 obtain ⟨v1,V1,F1⟩:=zc F0
 refine zx [] (m_impl_isVar_ok fu _ _ _ V1) ?_
 refine zf (zd ?_)
 refine zn F1 ?_ ?_<;>intro C2 F2
 refine zb ?_
 refine zZ yMix (by kernel_rfl) ?_
 refine s_mv ?_
 refine s_nc ?_
 refine zu yA24 ?_
 refine zI yA32 yS32 ?_
 refine zgv yU24 ?_
 refine s_bs Form.row [(Form.mk 0 (⟨#[]⟩:ByteArray) 0 ([]:List Int) ([]:List Form))] yP24 yR32 ?_
 obtain ⟨hk3,F3⟩:=zat F2
 refine zfw Form.row (fun y=>Form.row_len y) hk3 yP24 ?_
 obtain ⟨v4,V4,F4⟩:=zc F3
 refine zhC Form.row V4 yE24 ?_
 refine s_stA Form.row x1 V4 (Form.row_eq _) (Form.row_eq _) yS32 yS32 ?_
 refine s_nc ?_
 refine zal yS24 ?_
 refine zam (by kernel_rfl) ?_
 refine zd (za ?_)
 refine s_mv ?_
 refine s_mv ?_
 refine s_nc ?_
 refine zu yA27 ?_
 refine s_mv ?_
 refine s_bs rI [x3] yP27 yR3 ?_
 obtain ⟨hk5,F5⟩:=zat F4
 refine zfw rI (fun _=>rfl) hk5 yP27 ?_
 refine s_nc ?_
 refine zal yS27 ?_
 refine zf (zd (zb (za ?_)))
 refine s_fa zD ?_
 refine zu yA24 ?_
 refine zF yU24 ?_
 refine s_mv ?_
 refine zf (zd (zl ?_))
 refine zeP 9000 22 5020 [.ar 5020] ?_
 refine zeP 9001 31 5021 [.ar 5021] ?_
 refine zaz [10,11,12,36,37,38,39,40,41,42,43,44,45,46,47,48,49,50,51,52,53,54,55,56,57,58,59,60,61,62,63,64,65] [5020,5021,9000,9001] [11,42064,52064] [5020,5021] (fun a:Nat × Int × (List Form) × (List Int)=>a.1) (fun a:Nat × Int × (List Form) × (List Int)=>[(36,.t (.sc (.int .i64 a.2.1)))]) (fun a:Nat × Int × (List Form) × (List Int)=>[(5020,.arr (a.2.2.1.map Form.row) 32 true),(5021,.arr (a.2.2.2.map rI) 3 true),(9000,.box [.ar 5020]),(9001,.box [.ar 5021])]) (fun a:Nat × Int × (List Form) × (List Int)=>a.1≤fu∧zM a.1 x1 x2 x3 a.2.1 a.2.2.1 a.2.2.2=some r∧0≤a.2.1) (fu,0,((o1++[(Form.mk 0 (⟨#[]⟩:ByteArray) 0 ([]:List Int) ([]:List Form))]).set (o1.length:Int).toNat x1),(o2++[x3])) ⟨Nat.le_refl _,F5,by simp⟩ (by rfl) (by rfl) (fun _=>rfl) (zQ (by conv=>lhs;whnf) (by rfl) zbA) (zV (by conv=>lhs;whnf) (by rfl) (zV (by conv=>lhs;whnf) (by rfl) (zV (by conv=>lhs;whnf) (by rfl) (zV (by conv=>lhs;whnf) (by rfl) zbl)))) (zcq hC rfl) (by repeat (first | exact zai rfl | refine zax rfl ?_ | refine z8 rfl ?_)) (by repeat (first | exact zaU | exact zan rfl | refine zay rfl ?_ | refine z9 rfl ?_)) ?_
 clear F5
 rintro ⟨fu,g6,g7,g8⟩ ⟨hl9,F6,hn_g6⟩
 dsimp only at hl9 F6 hn_g6 ⊢
 obtain _ | fu:=fu
 · rw [zM] at F6;cases F6
 rw [zM] at F6
 refine zb (za ?_)
 refine s_lt ?_
 refine zf (zd (zb ?_))
 refine zn F6 ?_ ?_<;>intro C10 F7
 refine zN 34 (fun B11=>?_)
 refine zi (zd (zb (zl (zb (za ?_)))))
 refine s_mv ?_
 obtain ⟨v12,V12,F8⟩:=zc F7
 refine zR Form.row V12 (Form.row_eq _) yE24 ?_
 refine zak yA32 yS32 ?_
 refine z4 yZ32 ?_
 refine s_as ?_
 refine zal yS32 ?_
 refine zf (zd (zb (za ?_)))
 refine s_mv ?_
 refine s_as ?_
 refine zf (zd (zb (zb (za ?_))))
 refine s_mv ?_
 refine zH (zaq C10 B11 hn_g6) ?_
 refine s_fa zD ?_
 refine zu yA24 ?_
 refine zF yU24 ?_
 refine s_lt ?_
 refine s_mv ?_
 refine zo _ 48 F8 ?_ ?_<;>intro C13 F9
 refine s_fa zD ?_
 refine zu yA24 ?_
 refine s_mv ?_
 refine zH (zaq C10 B11 hn_g6) ?_
 obtain ⟨v14,V14,F10⟩:=zc F9
 refine zR Form.row V14 (Form.row_eq _) yE24 ?_
 refine zak yA32 yS32 ?_
 obtain ⟨v15,V15,F11⟩:=zc F10
 refine zx [] (zaM fu _ _ _ V15) ?_
 refine zz ?_
 refine zf (zd ?_)
 refine zn F11 ?_ ?_<;>intro C16 F12
 refine za ?_
 refine s_mv ?_
 refine zH rfl ?_
 refine s_as ?_
 refine zf (zd (za ?_))
 refine zI yA32 yS32 ?_
 iterate 4 refine s_mv ?_
 obtain ⟨v17,V17,F13⟩:=zc F12
 refine zL [(9000,9000),(9001,9001),(9420,5020),(9440,5021),(10420,42064),(10440,52064)] [] _ _ (ih_m_impl_patternVars fu (by omega) _ _ _ _ _ _ V17) ?_
 refine zf (zU (zd (za ?_)))
 refine zH (zaq C10 B11 hn_g6) ?_
 refine s_mv ?_
 refine zf ?_
 exact s_rn (fu,(g6+1),v17.1,v17.2) ⟨by first | omega | (dsimp only;omega),F13,by first | omega | (dsimp only;omega)⟩ [(5020,42064),(5021,52064)]
 refine zi (zd (za ?_))
 refine zI yA32 yS32 ?_
 iterate 4 refine s_mv ?_
 obtain ⟨v18,V18,F13⟩:=zc F12
 refine zL [(9000,9000),(9001,9001),(9420,5020),(9440,5021),(10420,42064),(10440,52064)] [] _ _ (ih_m_impl_patternVars fu (by omega) _ _ _ _ _ _ V18) ?_
 refine zf (zU (zd (za ?_)))
 refine zH (zaq C10 B11 hn_g6) ?_
 refine s_mv ?_
 refine zf ?_
 exact s_rn (fu,(g6+1),v18.1,v18.2) ⟨by first | omega | (dsimp only;omega),F13,by first | omega | (dsimp only;omega)⟩ [(5020,42064),(5021,52064)]
 iterate 7 refine r_no rfl ?_
 refine zy ?_
 refine zf (zd (zaP rfl (zi (zd (za ?_)))))
 refine zI yA32 yS32 ?_
 iterate 4 refine s_mv ?_
 obtain ⟨v19,V19,F10⟩:=zc F9
 refine zL [(9000,9000),(9001,9001),(9420,5020),(9440,5021),(10420,42064),(10440,52064)] [] _ _ (ih_m_impl_patternVars fu (by omega) _ _ _ _ _ _ V19) ?_
 refine zf (zU (zd (za ?_)))
 refine zH (zaq C10 B11 hn_g6) ?_
 refine s_mv ?_
 refine zf ?_
 exact s_rn (fu,(g6+1),v19.1,v19.2) ⟨by first | omega | (dsimp only;omega),F10,by first | omega | (dsimp only;omega)⟩ [(5020,42064),(5021,52064)]
 refine zeP 9000 5020 10420 [.ar 10420] ?_
 refine zeP 9001 5021 10440 [.ar 10440] ?_
 refine zA (zq (zp (zr (zgN ?_))))
 cases F7
 exact zk _ [] Tryz.results136
 refine zi (zd (zb (za ?_)))
 refine s_fa zD ?_
 refine zu yA24 ?_
 refine zF yU24 ?_
 refine s_mv ?_
 refine zf (zd (zl ?_))
 refine zeP 9000 9420 5040 [.ar 5040] ?_
 refine zeP 9001 9440 5041 [.ar 5041] ?_
 refine zaz [10,11,12,36,37,38,39,40,41,42,43,44,45,46,47,48,49,50,51,52,53,54,55,56,57,58,59,60,61,62,63,64,65] [5040,5041,9000,9001] [11,42064,52064] [5040,5041] (fun a:Nat × Int × (List Form) × (List Int)=>a.1) (fun a:Nat × Int × (List Form) × (List Int)=>[(36,.t (.sc (.int .i64 a.2.1)))]) (fun a:Nat × Int × (List Form) × (List Int)=>[(5040,.arr (a.2.2.1.map Form.row) 32 true),(5041,.arr (a.2.2.2.map rI) 3 true),(9000,.box [.ar 5040]),(9001,.box [.ar 5041])]) (fun a:Nat × Int × (List Form) × (List Int)=>a.1≤fu∧zM a.1 x1 x2 x3 a.2.1 a.2.2.1 a.2.2.2=some r∧0≤a.2.1) (fu,0,o1,o2) ⟨Nat.le_refl _,F2,by simp⟩ (by rfl) (by rfl) (fun _=>rfl) (zQ (by conv=>lhs;whnf) (by rfl) zbA) (zV (by conv=>lhs;whnf) (by rfl) (zV (by conv=>lhs;whnf) (by rfl) (zV (by conv=>lhs;whnf) (by rfl) (zV (by conv=>lhs;whnf) (by rfl) zbl)))) (zcq hC rfl) (by repeat (first | exact zai rfl | refine zax rfl ?_ | refine z8 rfl ?_)) (by repeat (first | exact zaU | exact zan rfl | refine zay rfl ?_ | refine z9 rfl ?_)) ?_
 clear F2
 rintro ⟨fu,g20,g21,g22⟩ ⟨hl23,F3,hn_g20⟩
 dsimp only at hl23 F3 hn_g20 ⊢
 obtain _ | fu:=fu
 · rw [zM] at F3;cases F3
 rw [zM] at F3
 refine zb (za ?_)
 refine s_lt ?_
 refine zf (zd (zb ?_))
 refine zn F3 ?_ ?_<;>intro C24 F4
 refine zN 34 (fun B25=>?_)
 refine zi (zd (zb (zl (zb (za ?_)))))
 refine s_mv ?_
 obtain ⟨v26,V26,F5⟩:=zc F4
 refine zR Form.row V26 (Form.row_eq _) yE24 ?_
 refine zak yA32 yS32 ?_
 refine z4 yZ32 ?_
 refine s_as ?_
 refine zal yS32 ?_
 refine zf (zd (zb (za ?_)))
 refine s_mv ?_
 refine s_as ?_
 refine zf (zd (zb (zb (za ?_))))
 refine s_mv ?_
 refine zH (zaq C24 B25 hn_g20) ?_
 refine s_fa zD ?_
 refine zu yA24 ?_
 refine zF yU24 ?_
 refine s_lt ?_
 refine s_mv ?_
 refine zo _ 48 F5 ?_ ?_<;>intro C27 F6
 refine s_fa zD ?_
 refine zu yA24 ?_
 refine s_mv ?_
 refine zH (zaq C24 B25 hn_g20) ?_
 obtain ⟨v28,V28,F7⟩:=zc F6
 refine zR Form.row V28 (Form.row_eq _) yE24 ?_
 refine zak yA32 yS32 ?_
 obtain ⟨v29,V29,F8⟩:=zc F7
 refine zx [] (zaM fu _ _ _ V29) ?_
 refine zz ?_
 refine zf (zd ?_)
 refine zn F8 ?_ ?_<;>intro C30 F9
 refine za ?_
 refine s_mv ?_
 refine zH rfl ?_
 refine s_as ?_
 refine zf (zd (za ?_))
 refine zI yA32 yS32 ?_
 iterate 4 refine s_mv ?_
 obtain ⟨v31,V31,F10⟩:=zc F9
 refine zL [(9000,9000),(9001,9001),(9420,5040),(9440,5041),(10420,42064),(10440,52064)] [] _ _ (ih_m_impl_patternVars fu (by omega) _ _ _ _ _ _ V31) ?_
 refine zf (zU (zd (za ?_)))
 refine zH (zaq C24 B25 hn_g20) ?_
 refine s_mv ?_
 refine zf ?_
 exact s_rn (fu,(g20+1),v31.1,v31.2) ⟨by first | omega | (dsimp only;omega),F10,by first | omega | (dsimp only;omega)⟩ [(5040,42064),(5041,52064)]
 refine zi (zd (za ?_))
 refine zI yA32 yS32 ?_
 iterate 4 refine s_mv ?_
 obtain ⟨v32,V32,F10⟩:=zc F9
 refine zL [(9000,9000),(9001,9001),(9420,5040),(9440,5041),(10420,42064),(10440,52064)] [] _ _ (ih_m_impl_patternVars fu (by omega) _ _ _ _ _ _ V32) ?_
 refine zf (zU (zd (za ?_)))
 refine zH (zaq C24 B25 hn_g20) ?_
 refine s_mv ?_
 refine zf ?_
 exact s_rn (fu,(g20+1),v32.1,v32.2) ⟨by first | omega | (dsimp only;omega),F10,by first | omega | (dsimp only;omega)⟩ [(5040,42064),(5041,52064)]
 iterate 7 refine r_no rfl ?_
 refine zy ?_
 refine zf (zd (zaP rfl (zi (zd (za ?_)))))
 refine zI yA32 yS32 ?_
 iterate 4 refine s_mv ?_
 obtain ⟨v33,V33,F7⟩:=zc F6
 refine zL [(9000,9000),(9001,9001),(9420,5040),(9440,5041),(10420,42064),(10440,52064)] [] _ _ (ih_m_impl_patternVars fu (by omega) _ _ _ _ _ _ V33) ?_
 refine zf (zU (zd (za ?_)))
 refine zH (zaq C24 B25 hn_g20) ?_
 refine s_mv ?_
 refine zf ?_
 exact s_rn (fu,(g20+1),v33.1,v33.2) ⟨by first | omega | (dsimp only;omega),F7,by first | omega | (dsimp only;omega)⟩ [(5040,42064),(5041,52064)]
 refine zeP 9000 5040 10420 [.ar 10420] ?_
 refine zeP 9001 5041 10440 [.ar 10440] ?_
 refine zA (zq (zp (zr (zgN ?_))))
 cases F4
 exact zk _ [] Tryz.results136
end Go.Abs
