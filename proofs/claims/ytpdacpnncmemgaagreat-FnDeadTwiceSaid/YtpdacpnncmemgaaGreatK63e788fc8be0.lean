/- A part of the proof: what the functions that the law calls answer, as pure values. -/
import Derived.Test.YtpdacpnncmemgaaGreatK44963eedd702
import Derived.Test.YtpdacpnncmemgaaGreatKe229a176054d
import Derived.Test.YtpdacpnncmemgaaGreatK5e6712fa12dd
import Derived.Test.YtpdacpnncmemgaaGreatKa647db9ee9e6
import Derived.Test.YtpdacpnncmemgaaGreatK57e2d81719e9
import Derived.Test.YtpdacpnncmemgaaGreatKfaf2dbb53499
set_option linter.unusedSimpArgs false
set_option linter.unusedVariables false
set_option maxRecDepth 100000
set_option maxHeartbeats 4000000
namespace Go.Abs
open Go.Proofs
theorem m_impl_patternVars_all (fuel:Nat):zdC fuel:=by
 induction fuel using Nat.strongRecOn with
 | _ N ih =>
   cases N with
   | zero=>exact (by intro x1 x2 x3 o1 o2 r h;rw [za6] at h;cases h)
   | succ fu=>exact m_impl_patternVars_st fu (fun k hk=>(ih k (by omega)))
theorem m_impl_patternVars_ok (fuel:Nat):zdC fuel:=(m_impl_patternVars_all fuel)
def m_impl_varsOf_AC (fuel:Nat):Prop:=∀ (x1:Form) (x2:(List Form)) (r:((List Form) × (List Int))),zd7 fuel x1 x2=some r→AC Tryz.prog 80 [.ag [.t (.sc (.int .i64 x1.kind)),.t (.sc (.str x1.name)),.t (.sc (.int .i64 x1.n)),.t (.sl (x1.scopes.map rI)),.t (.sl (x1.kids.map Form.row))],.t (.sl (x2.map Form.row))] (objs []) (.tp [.ar 9200,.t (.sl (r.2.map rI))]) (objs [(9200,.arr (r.1.map Form.row) 32 true)])
theorem zgU (fuel:Nat):m_impl_varsOf_AC fuel:=by
 intro x1 x2 r F0
 unfold zd7 at F0
 refine AC_i [.ar 9200,.t (.sl (r.2.map rI))] Tryz.func80 rfl Tryz.ntmps80 ?_
 intro C hC
 refine zb (za ?_)
 refine za7 ?_
 refine s_as ?_
 refine s_as ?_
 refine zf (zd (zb (za ?_)))
 refine s_bs Form.row ([]:List Form) yP24 yR32 ?_
 refine s_bs rI ([]:List Int) yP27 yR3 ?_
 refine z4 yZ24 ?_
 refine z4 yZ27 ?_
 refine zal yS24 ?_
 refine zal yS27 ?_
 refine zf (zd (zb (za ?_)))
 refine zI yA32 yS32 ?_
 refine s_mv ?_
 obtain ⟨v1,V1,F1⟩:=zc F0
 refine zL [(9000,6),(9001,7),(9420,8),(9440,9),(10420,42012),(10440,52012)] [] _ _ (m_impl_patternVars_ok fuel _ _ _ _ _ _ V1) ?_
 refine zf (zd (zb ?_))
 refine zZ yMix (by kernel_rfl) ?_
 refine zu yA24 ?_
 refine zu yA27 ?_
 refine s_as ?_
 refine s_as ?_
 refine zam (by kernel_rfl) ?_
 refine zd ?_
 refine zdf 4 42012 9200 (by conv=>lhs;whnf) (by conv=>lhs;whnf) rfl ?_
 refine zh (zm ?_)
 cases F1
 exact zk _ [52012] Tryz.results80
def m_impl_PatternValid_AC (fuel:Nat):Prop:=∀ (x1:Form) (x2:(List Form)) (r:Bool),zdq fuel x1 x2=some r→AC Tryz.prog 49 [.ag [.t (.sc (.int .i64 x1.kind)),.t (.sc (.str x1.name)),.t (.sc (.int .i64 x1.n)),.t (.sl (x1.scopes.map rI)),.t (.sl (x1.kids.map Form.row))],.t (.sl (x2.map Form.row))] noOb (.t (.sc (.bool r))) noOb
theorem m_impl_PatternValid_ok (fuel:Nat):m_impl_PatternValid_AC fuel:=by
 intro x1 x2 r F0
 unfold zdq at F0
 refine AC_i [.t (.sc (.bool r))] Tryz.func49 rfl Tryz.ntmps49 ?_
 intro C hC
 refine zb (za ?_)
 refine za7 ?_
 refine s_as ?_
 refine zf (zd (zb (zb (za ?_))))
 refine zI yA32 yS32 ?_
 obtain ⟨v1,V1,F1⟩:=zc F0
 refine zx [] (zcz fuel _ _ V1) ?_
 refine za3 ?_
 refine s_mv ?_
 refine zo _ 12 F1 ?_ ?_<;>intro C2 F2
 iterate 3 refine r_no rfl ?_
 refine zz ?_
 refine s_mv ?_
 refine r_no rfl (r_no rfl ?_)
 refine zz ?_
 refine s_mv ?_
 iterate 3 refine r_no rfl ?_
 refine zz ?_
 refine zf (zd (zK rfl (zb (za ?_))))
 refine s_as ?_
 refine zf (zd (zh (zg (zm ?_))))
 cases F2
 exact zk [] [] Tryz.results49
 refine s_mv ?_
 obtain ⟨v3,V3,F3⟩:=zc F2
 refine zx [] (zgZ fuel _ _ V3) ?_
 refine za3 ?_
 refine zy ?_
 refine s_mv ?_
 refine zo _ 17 F3 ?_ ?_<;>intro C4 F4
 refine r_no rfl (r_no rfl ?_)
 refine zz ?_
 refine s_mv ?_
 iterate 3 refine r_no rfl ?_
 refine zz ?_
 refine zf (zd (zK rfl (zb (za ?_))))
 refine s_as ?_
 refine zf (zd (zh (zg (zm ?_))))
 cases F4
 exact zk [] [] Tryz.results49
 refine zI yA32 yS32 ?_
 obtain ⟨v5,V5,F5⟩:=zc F4
 refine zx [] (zaM fuel _ _ _ V5) ?_
 refine zy ?_
 refine s_mv ?_
 refine zo _ 21 F5 ?_ ?_<;>intro C6 F6
 iterate 3 refine r_no rfl ?_
 refine zz ?_
 refine zf (zd (zK rfl (zb (za ?_))))
 refine s_as ?_
 refine zf (zd (zh (zg (zm ?_))))
 cases F6
 exact zk [] [] Tryz.results49
 refine zI yA32 yS32 ?_
 obtain ⟨v7,V7,F7⟩:=zc F6
 refine zx [] (m_impl_dotsOk_ok fuel _ _ _ V7) ?_
 refine za3 ?_
 refine zy ?_
 refine zf (zd ?_)
 refine zn F7 ?_ ?_<;>intro C8 F8
 refine zb (za ?_)
 refine s_as ?_
 refine zf (zd (zh (zg (zm ?_))))
 cases F8
 exact zk [] [] Tryz.results49
 refine zi (zd (zb (za ?_)))
 refine zI yA32 yS32 ?_
 refine s_mv ?_
 obtain ⟨v9,V9,F9⟩:=zc F8
 refine zL [(9200,2029)] [] _ _ (zgU fuel _ _ _ V9) ?_
 refine s_mv ?_
 refine zcp ?_
 refine zcp ?_
 refine s_as ?_
 refine s_as ?_
 refine zf (zd (zb (zb (za ?_))))
 refine s_mv ?_
 refine zgv yU24 ?_
 refine s_mv ?_
 refine zf (zd (zl ?_))
 refine awp_frz 2029 (by conv=>lhs;whnf) ?_
 refine zaX (β:=Int × (List Form)) [4,7,8,34,35,36,37,38,39,40,41,42,43,44,45,46,47,48,49,50,51] [2029] [8] (fun a=>[(34,.t (.sc (.int .i64 a.2.1)))]) (fun a=>[(2029,.arr (a.2.2.map Form.row) 32 false)]) (fun a=>a.1≤fuel∧zaD a.1 v9 a.2.1 a.2.2=some r) (fuel,0,v9.1) ⟨Nat.le_refl _,F9⟩ ?_
 clear F9
 rintro ⟨fu,g10,g11⟩ ⟨hl12,F10⟩
 dsimp only at hl12 F10 ⊢
 obtain _ | fu:=fu
 · rw [zaD] at F10;cases F10
 rw [zaD] at F10
 refine zb (za ?_)
 refine s_lt ?_
 refine zf (zd (zb ?_))
 refine zn F10 ?_ ?_<;>intro C13 F11
 refine zi (zd (zb (zl (zb (za ?_)))))
 refine s_mv ?_
 obtain ⟨v14,V14,F12⟩:=zc F11
 refine zhC Form.row V14 yE24 ?_
 refine s_lAN Form.row V14 (Form.row_eq _) yA32 yS32 ?_
 refine z4 yZ32 ?_
 refine s_as ?_
 refine zal yS32 ?_
 refine zf (zd (zb ?_))
 refine zZ yMix (by kernel_rfl) ?_
 refine s_mv ?_
 refine s_mv ?_
 obtain ⟨v15,V15,F13⟩:=zc F12
 refine s_sl01 Form.row (fun y=>Form.row_len y) V15 yU24 yE24 ?_
 refine zI yA32 yS32 ?_
 obtain ⟨v16,V16,F14⟩:=zc F13
 refine zx [] (zgH fu _ _ _ V16) ?_
 refine s_mv ?_
 refine zo _ 44 F14 ?_ ?_<;>intro C17 F15
 iterate 5 refine r_no rfl ?_
 refine zz ?_
 refine zam (by kernel_rfl) ?_
 refine zd (zK rfl (zb (za ?_)))
 refine s_as ?_
 refine zf (zd (zh (zj (zg (zw (zj (zg (zm ?_))))))))
 cases F15
 exact zk [] [] Tryz.results49
 refine s_mv ?_
 refine s_mv ?_
 obtain ⟨v18,V18,F16⟩:=zc F15
 refine zR rI V18 rfl yE27 ?_
 refine zu yA3 ?_
 refine s_gt ?_
 refine zy ?_
 refine zam (by kernel_rfl) ?_
 refine zd ?_
 refine zn F16 ?_ ?_<;>intro C19 F17
 refine zb (za ?_)
 refine s_as ?_
 refine zf (zd (zh (zj (zg (zw (zj (zg (zm ?_))))))))
 cases F17
 exact zk [] [] Tryz.results49
 refine zi (zU (zd (za ?_)))
 refine zH rfl ?_
 refine s_mv ?_
 refine zf ?_
 exact s_rn (fu,(w64 (g10+1)),g11) ⟨by first | omega | (dsimp only;omega),F17⟩
 refine zA (zq (zp (zr (zd (zb (za ?_))))))
 refine s_mv ?_
 refine zgv yU24 ?_
 refine s_le ?_
 refine s_as ?_
 refine zf (zd (zh (zm ?_)))
 cases F11
 exact zk [] [] Tryz.results49
def m_impl_depthIn_1_AC (fuel:Nat):Prop:=∀ (x1:Form) (o1:Form) (r:Bool),zeA fuel x1 o1=some r→AC Tryz.prog 170 [.ag [.t (.sc (.int .i64 x1.kind)),.t (.sc (.str x1.name)),.t (.sc (.int .i64 x1.n)),.t (.sl (x1.scopes.map rI)),.t (.sl (x1.kids.map Form.row))],.rf 9000 0] (objs [(9000,.box [.t (.sc (.int .i64 o1.kind)),.t (.sc (.str o1.name)),.t (.sc (.int .i64 o1.n)),.t (.sl (o1.scopes.map rI)),.t (.sl (o1.kids.map Form.row))])]) (.t (.sc (.bool r))) (objs [(9000,.box [.t (.sc (.int .i64 o1.kind)),.t (.sc (.str o1.name)),.t (.sc (.int .i64 o1.n)),.t (.sl (o1.scopes.map rI)),.t (.sl (o1.kids.map Form.row))])])
theorem m_impl_depthIn_1_ok (fuel:Nat):m_impl_depthIn_1_AC fuel:=by
 intro x1 o1 r F0
 unfold zeA at F0
 refine AC_i [.t (.sc (.bool r))] Tryz.func170 rfl Tryz.ntmps170 ?_
 intro C hC
 refine zb (za ?_)
 refine za7 ?_
 refine s_as ?_
 refine zf (zd (zb (za ?_)))
 refine zI yA32 yS32 ?_
 refine zI yA32 yS32 ?_
 obtain ⟨v1,V1,F1⟩:=zc F0
 refine zx [] (zbz fuel _ _ _ V1) ?_
 refine s_as ?_
 refine zf (zd (zh (zm ?_)))
 cases F1
 exact zk _ [] Tryz.results170
def zfB (fuel:Nat):Prop:=∀ (x1:(List Form)) (o1:Form) (r:Int),zbv fuel x1 o1=some r→AC Tryz.prog 134 [.t (.sl (x1.map Form.row)),.fn 170 [.rf 9000 0]] (objs [(9000,.box [.t (.sc (.int .i64 o1.kind)),.t (.sc (.str o1.name)),.t (.sc (.int .i64 o1.n)),.t (.sl (o1.scopes.map rI)),.t (.sl (o1.kids.map Form.row))])]) (.t (.sc (.int .i64 r))) (objs [(9000,.box [.t (.sc (.int .i64 o1.kind)),.t (.sc (.str o1.name)),.t (.sc (.int .i64 o1.n)),.t (.sl (o1.scopes.map rI)),.t (.sl (o1.kids.map Form.row))])])
theorem zfA (fuel:Nat):zfB fuel:=by
 intro x1 o1 r F0
 unfold zbv at F0
 refine AC_i [.t (.sc (.int .i64 r))] Tryz.func134 rfl Tryz.ntmps134 ?_
 intro C hC
 refine zb (za ?_)
 refine s_as ?_
 refine zf (zd (zb (zb (za ?_))))
 refine s_mv ?_
 refine zF yU24 ?_
 refine s_mv ?_
 refine zf (zd (zl ?_))
 refine zaX (β:=Int) [4,5,8,9,10,11,12,13,14,15,16,17,18] [] [] (fun a=>[(8,.t (.sc (.int .i64 a.2)))]) (fun a=>[]) (fun a=>a.1≤fuel∧z7 a.1 x1 o1 a.2=some r∧0≤a.2) (fuel,0) ⟨Nat.le_refl _,F0,by simp⟩ ?_
 clear F0
 rintro ⟨fu,g1⟩ ⟨hl2,F1,hn_g1⟩
 dsimp only at hl2 F1 hn_g1 ⊢
 obtain _ | fu:=fu
 · rw [z7] at F1;cases F1
 rw [z7] at F1
 refine zb (za ?_)
 refine s_lt ?_
 refine zf (zd (zb ?_))
 refine zn F1 ?_ ?_<;>intro C3 F2
 refine zN 0 (fun B4=>?_)
 refine zi (zd (zb (zl (zb (za ?_)))))
 refine s_mv ?_
 refine s_as ?_
 refine zf (zd (zb (za ?_)))
 iterate 3 refine s_mv ?_
 obtain ⟨v5,V5,F3⟩:=zc F2
 refine zR Form.row V5 (Form.row_eq _) yE24 ?_
 refine zak yA32 yS32 ?_
 obtain ⟨v6,V6,F4⟩:=zc F3
 refine zL [(9000,9000)] [] _ _ (m_impl_depthIn_1_ok fu _ _ _ V6) ?_
 refine zf (zd ?_)
 refine zn F4 ?_ ?_<;>intro C7 F5
 refine zb (za ?_)
 refine s_mv ?_
 refine s_as ?_
 refine zf (zd (zh (zj (zg (zw (zj (zg (zm ?_))))))))
 cases F5
 exact zk _ [] Tryz.results134
 refine zi (zU (zd (za ?_)))
 refine zH (zaq C3 B4 hn_g1) ?_
 refine s_mv ?_
 refine zf ?_
 exact s_rn (fu,(g1+1)) ⟨by first | omega | (dsimp only;omega),F5,by first | omega | (dsimp only;omega)⟩
 refine zA (zq (zp (zr (zd (zb (za ?_))))))
 refine s_as ?_
 refine zf (zd (zh (zm ?_)))
 cases F2
 exact zk _ [] Tryz.results134
def m_impl_depthIn_AC (fuel:Nat):Prop:=∀ (x1:(List Form)) (x2:(List Int)) (x3:Form) (r:Int),zeM fuel x1 x2 x3=some r→AC Tryz.prog 158 [.t (.sl (x1.map Form.row)),.t (.sl (x2.map rI)),.ag [.t (.sc (.int .i64 x3.kind)),.t (.sc (.str x3.name)),.t (.sc (.int .i64 x3.n)),.t (.sl (x3.scopes.map rI)),.t (.sl (x3.kids.map Form.row))]] noOb (.t (.sc (.int .i64 r))) noOb
theorem zhK (fuel:Nat):m_impl_depthIn_AC fuel:=by
 intro x1 x2 x3 r F0
 unfold zeM at F0
 refine AC_i [.t (.sc (.int .i64 r))] Tryz.func158 rfl Tryz.ntmps158 ?_
 intro C hC
 refine zb (za ?_)
 refine za7 ?_
 refine s_as ?_
 refine zf (zd (zb (zb (za ?_))))
 refine s_fa zcN ?_
 refine zu yA3 ?_
 refine s_ne ?_
 refine zf (zd ?_)
 refine zn F0 ?_ ?_<;>intro C1 F1
 refine zb (za ?_)
 refine s_as ?_
 refine zf (zd (zh (zg (zm ?_))))
 cases F1
 exact zk [] [] Tryz.results158
 refine zi (zd (zb (za ?_)))
 refine s_mv ?_
 refine s_fn ?_
 obtain ⟨v2,V2,F2⟩:=zc F1
 refine zL [(9000,5)] [] _ _ (zfA fuel _ _ _ V2) ?_
 refine s_as ?_
 refine zf (zd (zb (zb (za ?_))))
 refine s_mv ?_
 refine s_lt ?_
 refine zf (zd ?_)
 refine zn F2 ?_ ?_<;>intro C3 F3
 refine zb (za ?_)
 refine s_as ?_
 refine zf (zd (zh (zg (zm ?_))))
 cases F3
 exact zk [] [] Tryz.results158
 refine zi (zd (zb (za ?_)))
 refine s_mv ?_
 refine s_mv ?_
 obtain ⟨v4,V4,F4⟩:=zc F3
 refine zR rI V4 rfl yE27 ?_
 refine zu yA3 ?_
 refine s_as ?_
 refine zf (zd (zh (zm ?_)))
 cases F4
 exact zk [] [] Tryz.results158
def m_impl_rowsOk_1_AC (fuel:Nat):Prop:=∀ (x1:Form) (o1:Bool) (o2:(List Form)) (o3:(List Int)) (o4:Int) (r:Bool),zgn fuel x1 o1 o2 o3 o4=some r→AC Tryz.prog 159 [.ag [.t (.sc (.int .i64 x1.kind)),.t (.sc (.str x1.name)),.t (.sc (.int .i64 x1.n)),.t (.sl (x1.scopes.map rI)),.t (.sl (x1.kids.map Form.row))],.rf 9000 0,.rf 9001 0,.rf 9002 0,.rf 9003 0] (objs [(9000,.box [.t (.sc (.bool o1))]),(9001,.box [.t (.sl (o2.map Form.row))]),(9002,.box [.t (.sl (o3.map rI))]),(9003,.box [.t (.sc (.int .i64 o4))])]) (.tp []) (objs [(9000,.box [.t (.sc (.bool r))]),(9001,.box [.t (.sl (o2.map Form.row))]),(9002,.box [.t (.sl (o3.map rI))]),(9003,.box [.t (.sc (.int .i64 o4))])])
theorem m_impl_rowsOk_1_ok (fuel:Nat):m_impl_rowsOk_1_AC fuel:=by
 intro x1 o1 o2 o3 o4 r F0
 unfold zgn at F0
 refine AC_i [] Tryz.func159 rfl Tryz.ntmps159 ?_
 intro C hC
 refine zb (za ?_)
 refine za7 ?_
 refine zf (zd ?_)
 refine zZ yMix (by kernel_rfl) ?_
 refine zu yA4 ?_
 refine s_mv ?_
 refine zo _ 7 F0 ?_ ?_<;>intro C1 F1
 iterate 6 refine r_no rfl ?_
 refine zz ?_
 refine zal yS4 ?_
 refine zam (by kernel_rfl) ?_
 refine zgN ?_
 cases F1
 exact zk _ [] Tryz.results159
 refine zu yA24 ?_
 refine zu yA27 ?_
 refine zI yA32 yS32 ?_
 obtain ⟨v2,V2,F2⟩:=zc F1
 refine zx [] (zhK fuel _ _ _ _ V2) ?_
 refine zu yA3 ?_
 refine s_gt ?_
 refine zy ?_
 refine zal yS4 ?_
 refine zam (by kernel_rfl) ?_
 refine zgN ?_
 cases F2
 exact zk _ [] Tryz.results159
def zcg (fuel:Nat):Prop:=∀ (x1:Form) (o1:Bool) (o2:(List Form)) (o3:(List Int)) (o4:Int) (r:Bool),za2 fuel x1 o1 o2 o3 o4=some r→AC Tryz.prog 91 [.ag [.t (.sc (.int .i64 x1.kind)),.t (.sc (.str x1.name)),.t (.sc (.int .i64 x1.n)),.t (.sl (x1.scopes.map rI)),.t (.sl (x1.kids.map Form.row))],.fn 159 [.rf 9000 0,.rf 9001 0,.rf 9002 0,.rf 9003 0]] (objs [(9000,.box [.t (.sc (.bool o1))]),(9001,.box [.t (.sl (o2.map Form.row))]),(9002,.box [.t (.sl (o3.map rI))]),(9003,.box [.t (.sc (.int .i64 o4))])]) (.tp []) (objs [(9000,.box [.t (.sc (.bool r))]),(9001,.box [.t (.sl (o2.map Form.row))]),(9002,.box [.t (.sl (o3.map rI))]),(9003,.box [.t (.sc (.int .i64 o4))])])
theorem zhg (fu:Nat) (ih_m_impl_eachForm_rowsOk_1:∀ k,k≤fu→zcg k):zcg (fu+1):=by
 intro x1 o1 o2 o3 o4 r F0
 rw [za2] at F0
 refine AC_i [] Tryz.func91 rfl Tryz.ntmps91 ?_
 intro C hC
 refine zb (za ?_)
 refine za7 ?_
 refine zf (zd (zb (za ?_)))
 refine s_mv ?_
 refine zI yA32 yS32 ?_
 obtain ⟨v1,V1,F1⟩:=zc F0
 refine zL [(9000,9000),(9001,9001),(9002,9002),(9003,9003)] [] _ _ (m_impl_rowsOk_1_ok fu _ _ _ _ _ _ V1) ?_
 refine zf (zd (zb (za ?_)))
 refine s_fa zD ?_
 refine zu yA24 ?_
 refine zF yU24 ?_
 refine s_mv ?_
 refine zf (zd (zl ?_))
 refine zaX (β:=Int × Bool) [5,12,13,14,15,16,17,18,19] [9000] [5] (fun a=>[(12,.t (.sc (.int .i64 a.2.1)))]) (fun a=>[(9000,.box [.t (.sc (.bool a.2.2))])]) (fun a=>a.1≤fu∧zao a.1 x1 o2 o3 o4 a.2.1 a.2.2=some r∧0≤a.2.1) (fu,0,v1) ⟨Nat.le_refl _,F1,by simp⟩ ?_
 clear F1
 rintro ⟨fu,g2,g3⟩ ⟨hl4,F2,hn_g2⟩
 dsimp only at hl4 F2 hn_g2 ⊢
 obtain _ | fu:=fu
 · rw [zao] at F2;cases F2
 rw [zao] at F2
 refine zb (za ?_)
 refine s_lt ?_
 refine zf (zd (zb ?_))
 refine zn F2 ?_ ?_<;>intro C5 F3
 refine zN 10 (fun B6=>?_)
 refine zi (zd (zb (zl (zb (za ?_)))))
 obtain ⟨v7,V7,F4⟩:=zc F3
 refine zR Form.row V7 (Form.row_eq _) yE24 ?_
 refine zak yA32 yS32 ?_
 refine z4 yZ32 ?_
 refine zal yS32 ?_
 refine zf (zd (za ?_))
 refine zI yA32 yS32 ?_
 refine s_mv ?_
 obtain ⟨v8,V8,F5⟩:=zc F4
 refine zL [(9000,9000),(9001,9001),(9002,9002),(9003,9003)] [] _ _ (ih_m_impl_eachForm_rowsOk_1 fu (by omega) _ _ _ _ _ _ V8) ?_
 refine zf (zU (zd (za ?_)))
 refine zH (zaq C5 B6 hn_g2) ?_
 refine s_mv ?_
 refine zf ?_
 exact s_rn (fu,(g2+1),v8) ⟨by first | omega | (dsimp only;omega),F5,by first | omega | (dsimp only;omega)⟩
 refine zA (zq (zp (zr (zgN ?_))))
 cases F3
 exact zk _ [] Tryz.results91
theorem zg6 (fuel:Nat):zcg fuel:=by
 induction fuel using Nat.strongRecOn with
 | _ N ih =>
   cases N with
   | zero=>exact (by intro x1 o1 o2 o3 o4 r h;rw [za2] at h;cases h)
   | succ fu=>exact zhg fu (fun k hk=>(ih k (by omega)))
theorem zhh (fuel:Nat):zcg fuel:=(zg6 fuel)
def zfV (fuel:Nat):Prop:=∀ (x1:Form) (x2:(List Form)) (x3:(List Int)) (x4:Int) (r:Bool),zcC fuel x1 x2 x3 x4=some r→AC Tryz.prog 137 [.ag [.t (.sc (.int .i64 x1.kind)),.t (.sc (.str x1.name)),.t (.sc (.int .i64 x1.n)),.t (.sl (x1.scopes.map rI)),.t (.sl (x1.kids.map Form.row))],.t (.sl (x2.map Form.row)),.t (.sl (x3.map rI)),.t (.sc (.int .i64 x4))] noOb (.t (.sc (.bool r))) noOb
theorem m_impl_rowsOk_st (fu:Nat) (ih_m_impl_rowsOk:∀ k,k≤fu→zfV k):zfV (fu+1):=by
 intro x1 x2 x3 x4 r F0
 rw [zcC] at F0
 refine AC_i [.t (.sc (.bool r))] Tryz.func137 rfl Tryz.ntmps137 ?_
 intro C hC
 refine zb (za ?_)
 iterate 4 refine za7 ?_
 refine s_as ?_
 refine zf (zd (zb (zb ?_)))
 refine zZ yMix (by kernel_rfl) ?_
 refine zu yA24 ?_
 refine zu yA27 ?_
 refine zI yA32 yS32 ?_
 obtain ⟨v1,V1,F1⟩:=zc F0
 refine zx [] (zhK fu _ _ _ _ V1) ?_
 refine zu yA3 ?_
 refine s_gt ?_
 refine zam (by kernel_rfl) ?_
 refine zd ?_
 refine zn F1 ?_ ?_<;>intro C2 F2
 refine zb (za ?_)
 refine s_as ?_
 refine zf (zd (zh (zg (zm ?_))))
 cases F2
 exact zk [] [] Tryz.results137
 refine zi (zd (zb (zb (za ?_))))
 refine s_fa zD ?_
 refine zu yA24 ?_
 refine zF yU24 ?_
 refine s_mv ?_
 refine zf (zd (zl ?_))
 refine zaX (β:=Int) [8,9,10,11,12,22,23,24,25,26,27,28,29,30,31,32,33,34,35,36,37,38,39,40,41,42,43,44,45,46,47,48,49,50,51,52,53,54,55,56,57,58] [] [10,12] (fun a=>[(22,.t (.sc (.int .i64 a.2)))]) (fun a=>[]) (fun a=>a.1≤fu∧za1 a.1 x1 x2 x3 x4 a.2=some r∧0≤a.2) (fu,0) ⟨Nat.le_refl _,F2,by simp⟩ ?_
 clear F2
 rintro ⟨fu,g3⟩ ⟨hl4,F3,hn_g3⟩
 dsimp only at hl4 F3 hn_g3 ⊢
 obtain _ | fu:=fu
 · rw [za1] at F3;cases F3
 rw [za1] at F3
 refine zb (za ?_)
 refine s_lt ?_
 refine zf (zd (zb ?_))
 refine zn F3 ?_ ?_<;>intro C5 F4
 refine zN 20 (fun B6=>?_)
 refine zi (zd (zb (zl (zb (za ?_)))))
 refine s_mv ?_
 obtain ⟨v7,V7,F5⟩:=zc F4
 refine zR Form.row V7 (Form.row_eq _) yE24 ?_
 refine zak yA32 yS32 ?_
 refine z4 yZ32 ?_
 refine s_as ?_
 refine zal yS32 ?_
 refine zf (zd (zb (zb (za ?_))))
 refine zI yA32 yS32 ?_
 obtain ⟨v8,V8,F6⟩:=zc F5
 refine zx [] (zaM fu _ _ _ V8) ?_
 refine zf (zd ?_)
 refine zn F6 ?_ ?_<;>intro C9 F7
 refine zA (zq (zr (zd (za ?_))))
 refine zH (zaq C5 B6 hn_g3) ?_
 refine s_mv ?_
 refine zf ?_
 exact s_rn (fu,(g3+1)) ⟨by first | omega | (dsimp only;omega),F7,by first | omega | (dsimp only;omega)⟩
 refine zi (zd (zb (za ?_)))
 refine zu yA3 ?_
 refine s_as ?_
 refine zf (zd (zb (zb (za ?_))))
 refine s_mv ?_
 refine zH (zaq C5 B6 hn_g3) ?_
 refine s_fa zD ?_
 refine zu yA24 ?_
 refine zF yU24 ?_
 refine s_lt ?_
 refine s_mv ?_
 refine zo _ 36 F7 ?_ ?_<;>intro C10 F8
 refine s_fa zD ?_
 refine zu yA24 ?_
 refine s_mv ?_
 refine zH (zaq C5 B6 hn_g3) ?_
 obtain ⟨v11,V11,F9⟩:=zc F8
 refine zR Form.row V11 (Form.row_eq _) yE24 ?_
 refine zak yA32 yS32 ?_
 obtain ⟨v12,V12,F10⟩:=zc F9
 refine zx [] (zaM fu _ _ _ V12) ?_
 refine zz ?_
 refine zf (zd ?_)
 refine zn F10 ?_ ?_<;>intro C13 F11
 refine zb (za ?_)
 refine s_mv ?_
 refine zH rfl ?_
 refine s_as ?_
 refine zf (zd (zb (za ?_)))
 refine z4 yZ4 ?_
 refine zal yS4 ?_
 refine zf (zd (zb (za ?_)))
 refine zI yA32 yS32 ?_
 refine s_fn ?_
 obtain ⟨v14,V14,F12⟩:=zc F11
 refine zL [(9000,12),(9001,5),(9002,6),(9003,7)] [] _ _ (zhh fu _ _ _ _ _ _ V14) ?_
 refine zf (zd (zb (za ?_)))
 refine zu yA4 ?_
 refine za3 ?_
 refine zf (zd ?_)
 refine zn F12 ?_ ?_<;>intro C15 F13
 refine zb (za ?_)
 refine s_as ?_
 refine zf (zd (zh (zg (zj (zg (zw (zj (zg (zm ?_)))))))))
 cases F13
 exact zk [] [] Tryz.results137
 refine zi (zd (zb (za ?_)))
 refine zI yA32 yS32 ?_
 refine zu yA24 ?_
 refine zu yA27 ?_
 refine s_mv ?_
 obtain ⟨v16,V16,F14⟩:=zc F13
 refine zx [] (ih_m_impl_rowsOk fu (by omega) _ _ _ _ _ V16) ?_
 refine za3 ?_
 refine zf (zd ?_)
 refine zn F14 ?_ ?_<;>intro C17 F15
 refine zb (za ?_)
 refine s_as ?_
 refine zf (zd (zh (zj (zg (zw (zj (zg (zm ?_))))))))
 cases F15
 exact zk [] [] Tryz.results137
 refine zi (zU (zd (za ?_)))
 refine zH (zaq C5 B6 hn_g3) ?_
 refine s_mv ?_
 refine zf ?_
 exact s_rn (fu,(g3+1)) ⟨by first | omega | (dsimp only;omega),F15,by first | omega | (dsimp only;omega)⟩
 refine zi (zd (zb (za ?_)))
 refine zI yA32 yS32 ?_
 refine zu yA24 ?_
 refine zu yA27 ?_
 refine s_mv ?_
 obtain ⟨v18,V18,F12⟩:=zc F11
 refine zx [] (ih_m_impl_rowsOk fu (by omega) _ _ _ _ _ V18) ?_
 refine za3 ?_
 refine zf (zd ?_)
 refine zn F12 ?_ ?_<;>intro C19 F13
 refine zb (za ?_)
 refine s_as ?_
 refine zf (zd (zh (zj (zg (zw (zj (zg (zm ?_))))))))
 cases F13
 exact zk [] [] Tryz.results137
 refine zi (zU (zd (za ?_)))
 refine zH (zaq C5 B6 hn_g3) ?_
 refine s_mv ?_
 refine zf ?_
 exact s_rn (fu,(g3+1)) ⟨by first | omega | (dsimp only;omega),F13,by first | omega | (dsimp only;omega)⟩
 iterate 7 refine r_no rfl ?_
 refine zy ?_
 refine zf (zd (zaP rfl (zi (zd (zb (za ?_))))))
 refine zI yA32 yS32 ?_
 refine zu yA24 ?_
 refine zu yA27 ?_
 refine s_mv ?_
 obtain ⟨v20,V20,F9⟩:=zc F8
 refine zx [] (ih_m_impl_rowsOk fu (by omega) _ _ _ _ _ V20) ?_
 refine za3 ?_
 refine zf (zd ?_)
 refine zn F9 ?_ ?_<;>intro C21 F10
 refine zb (za ?_)
 refine s_as ?_
 refine zf (zd (zh (zj (zg (zw (zj (zg (zm ?_))))))))
 cases F10
 exact zk [] [] Tryz.results137
 refine zi (zU (zd (za ?_)))
 refine zH (zaq C5 B6 hn_g3) ?_
 refine s_mv ?_
 refine zf ?_
 exact s_rn (fu,(g3+1)) ⟨by first | omega | (dsimp only;omega),F10,by first | omega | (dsimp only;omega)⟩
 refine zA (zq (zp (zr (zd (zb (za ?_))))))
 refine s_as ?_
 refine zf (zd (zh (zm ?_)))
 cases F4
 exact zk [] [] Tryz.results137
theorem m_impl_rowsOk_all (fuel:Nat):zfV fuel:=by
 induction fuel using Nat.strongRecOn with
 | _ N ih =>
   cases N with
   | zero=>exact (by intro x1 x2 x3 x4 r h;rw [zcC] at h;cases h)
   | succ fu=>exact m_impl_rowsOk_st fu (fun k hk=>(ih k (by omega)))
theorem m_impl_rowsOk_ok (fuel:Nat):zfV fuel:=(m_impl_rowsOk_all fuel)
def m_impl_templateOk_AC (fuel:Nat):Prop:=∀ (x1:Form) (x2:(List Form)) (x3:(List Int)) (r:Bool),zdh fuel x1 x2 x3=some r→AC Tryz.prog 87 [.ag [.t (.sc (.int .i64 x1.kind)),.t (.sc (.str x1.name)),.t (.sc (.int .i64 x1.n)),.t (.sl (x1.scopes.map rI)),.t (.sl (x1.kids.map Form.row))],.t (.sl (x2.map Form.row)),.t (.sl (x3.map rI))] noOb (.t (.sc (.bool r))) noOb
theorem zgY (fuel:Nat):m_impl_templateOk_AC fuel:=by
 intro x1 x2 x3 r F0
 unfold zdh at F0
 refine AC_i [.t (.sc (.bool r))] Tryz.func87 rfl Tryz.ntmps87 ?_
 intro C hC
 refine zb (za ?_)
 refine za7 ?_
 refine s_as ?_
 refine zf (zd (zb (za ?_)))
 refine zI yA32 yS32 ?_
 obtain ⟨v1,V1,F1⟩:=zc F0
 refine zx [] (zcz fuel _ _ V1) ?_
 refine s_mv ?_
 refine zo _ 9 F1 ?_ ?_<;>intro C2 F2
 refine zI yA32 yS32 ?_
 obtain ⟨v3,V3,F3⟩:=zc F2
 refine zx [] (zaM fuel _ _ _ V3) ?_
 refine za3 ?_
 refine zz ?_
 refine s_mv ?_
 refine zo _ 14 F3 ?_ ?_<;>intro C4 F4
 refine zI yA32 yS32 ?_
 obtain ⟨v5,V5,F5⟩:=zc F4
 refine zx [] (m_impl_dotsOk_ok fuel _ _ _ V5) ?_
 refine zz ?_
 refine s_mv ?_
 refine zo _ 18 F5 ?_ ?_<;>intro C6 F6
 refine zI yA32 yS32 ?_
 refine s_mv ?_
 refine s_mv ?_
 obtain ⟨v7,V7,F7⟩:=zc F6
 refine zx [] (m_impl_rowsOk_ok fuel _ _ _ _ _ V7) ?_
 refine zz ?_
 refine s_as ?_
 refine zf (zd (zh (zm ?_)))
 cases F7
 exact zk [] [] Tryz.results87
 iterate 4 refine r_no rfl ?_
 refine zy ?_
 refine s_as ?_
 refine zf (zd (zh (zm ?_)))
 cases F6
 exact zk [] [] Tryz.results87
 refine r_no rfl (r_no rfl ?_)
 refine zy ?_
 refine s_mv ?_
 iterate 4 refine r_no rfl ?_
 refine zy ?_
 refine s_as ?_
 refine zf (zd (zh (zm ?_)))
 cases F4
 exact zk [] [] Tryz.results87
 iterate 3 refine r_no rfl ?_
 refine zy ?_
 refine s_mv ?_
 refine r_no rfl (r_no rfl ?_)
 refine zy ?_
 refine s_mv ?_
 iterate 4 refine r_no rfl ?_
 refine zy ?_
 refine s_as ?_
 refine zf (zd (zh (zm ?_)))
 cases F2
 exact zk [] [] Tryz.results87
def m_impl_RuleValid_AC (fuel:Nat):Prop:=∀ (x1:Rule) (x2:(List Form)) (r:Bool),zeB fuel x1 x2=some r→AC Tryz.prog 66 [.ag [.t (.sc (.int .i64 x1.pattern.kind)),.t (.sc (.str x1.pattern.name)),.t (.sc (.int .i64 x1.pattern.n)),.t (.sl (x1.pattern.scopes.map rI)),.t (.sl (x1.pattern.kids.map Form.row)),.t (.sc (.int .i64 x1.template.kind)),.t (.sc (.str x1.template.name)),.t (.sc (.int .i64 x1.template.n)),.t (.sl (x1.template.scopes.map rI)),.t (.sl (x1.template.kids.map Form.row))],.t (.sl (x2.map Form.row))] noOb (.t (.sc (.bool r))) noOb
theorem m_impl_RuleValid_ok (fuel:Nat):m_impl_RuleValid_AC fuel:=by
 intro x1 x2 r F0
 unfold zeB at F0
 refine AC_i [.t (.sc (.bool r))] Tryz.func66 rfl Tryz.ntmps66 ?_
 intro C hC
 refine zb (za ?_)
 refine za7 ?_
 refine s_as ?_
 refine zf (zd (zb (zb (za ?_))))
 refine s_fa zhp ?_
 refine zak yA32 yS32 ?_
 refine s_mv ?_
 obtain ⟨v1,V1,F1⟩:=zc F0
 refine zx [] (m_impl_PatternValid_ok fuel _ _ _ V1) ?_
 refine za3 ?_
 refine s_mv ?_
 refine zo _ 12 F1 ?_ ?_<;>intro C2 F2
 iterate 4 refine r_no rfl ?_
 refine zz ?_
 refine s_mv ?_
 iterate 5 refine r_no rfl ?_
 refine zz ?_
 refine zf (zd (zK rfl (zb (za ?_))))
 refine s_as ?_
 refine zf (zd (zh (zg (zm ?_))))
 cases F2
 exact zk [] [] Tryz.results66
 refine s_fa zhp ?_
 refine s_fa zcN ?_
 refine zu yA3 ?_
 refine s_ne ?_
 refine zy ?_
 refine s_mv ?_
 refine zo _ 18 F2 ?_ ?_<;>intro C3 F3
 iterate 5 refine r_no rfl ?_
 refine zz ?_
 refine zf (zd (zK rfl (zb (za ?_))))
 refine s_as ?_
 refine zf (zd (zh (zg (zm ?_))))
 cases F3
 exact zk [] [] Tryz.results66
 refine s_fa zhp ?_
 refine s_fa zD ?_
 refine zu yA24 ?_
 refine zF yU24 ?_
 refine s_eq ?_
 refine zy ?_
 refine zf (zd ?_)
 refine zn F3 ?_ ?_<;>intro C4 F4
 refine zb (za ?_)
 refine s_as ?_
 refine zf (zd (zh (zg (zm ?_))))
 cases F4
 exact zk [] [] Tryz.results66
 refine zi (zd (zb (za ?_)))
 refine s_fa zhp ?_
 refine zak yA32 yS32 ?_
 refine s_mv ?_
 obtain ⟨v5,V5,F5⟩:=zc F4
 refine zL [(9200,2029)] [] _ _ (zgU fuel _ _ _ V5) ?_
 refine s_mv ?_
 refine zcp ?_
 refine zcp ?_
 refine s_as ?_
 refine s_as ?_
 refine zf (zd (zb (za ?_)))
 refine s_fa yF37_1 ?_
 refine zak yA32 yS32 ?_
 refine s_mv ?_
 refine s_mv ?_
 obtain ⟨v6,V6,F6⟩:=zc F5
 refine zx [2029] (zgY fuel _ _ _ _ V6) ?_
 refine s_as ?_
 refine zf (zd (zh (zm ?_)))
 cases F6
 exact zk [] [] Tryz.results66
def m_impl_rulesOk_1_AC (fuel:Nat):Prop:=∀ (x1:Rule) (o1:(List Form)) (r:Bool),zey fuel x1 o1=some r→AC Tryz.prog 65 [.ag [.t (.sc (.int .i64 x1.pattern.kind)),.t (.sc (.str x1.pattern.name)),.t (.sc (.int .i64 x1.pattern.n)),.t (.sl (x1.pattern.scopes.map rI)),.t (.sl (x1.pattern.kids.map Form.row)),.t (.sc (.int .i64 x1.template.kind)),.t (.sc (.str x1.template.name)),.t (.sc (.int .i64 x1.template.n)),.t (.sl (x1.template.scopes.map rI)),.t (.sl (x1.template.kids.map Form.row))],.rf 9000 0] (objs [(9000,.box [.t (.sl (o1.map Form.row))])]) (.t (.sc (.bool r))) (objs [(9000,.box [.t (.sl (o1.map Form.row))])])
theorem m_impl_rulesOk_1_ok (fuel:Nat):m_impl_rulesOk_1_AC fuel:=by
 intro x1 o1 r F0
 unfold zey at F0
 refine AC_i [.t (.sc (.bool r))] Tryz.func65 rfl Tryz.ntmps65 ?_
 intro C hC
 refine zb (za ?_)
 refine za7 ?_
 refine s_as ?_
 refine zf (zd (zb (za ?_)))
 refine zI yA37 yS37 ?_
 refine zu yA24 ?_
 obtain ⟨v1,V1,F1⟩:=zc F0
 refine zx [] (m_impl_RuleValid_ok fuel _ _ _ V1) ?_
 refine za3 ?_
 refine s_as ?_
 refine zf (zd (zh (zm ?_)))
 cases F1
 exact zk _ [] Tryz.results65
def zfz (fuel:Nat):Prop:=∀ (x1:(List Rule)) (o1:(List Form)) (r:Int),zbu fuel x1 o1=some r→AC Tryz.prog 67 [.t (.sl (x1.map Rule.row)),.fn 65 [.rf 9000 0]] (objs [(9000,.box [.t (.sl (o1.map Form.row))])]) (.t (.sc (.int .i64 r))) (objs [(9000,.box [.t (.sl (o1.map Form.row))])])
theorem zfy (fuel:Nat):zfz fuel:=by
 intro x1 o1 r F0
 unfold zbu at F0
 refine AC_i [.t (.sc (.int .i64 r))] Tryz.func67 rfl Tryz.ntmps67 ?_
 intro C hC
 refine zb (za ?_)
 refine s_as ?_
 refine zf (zd (zb (zb (za ?_))))
 refine s_mv ?_
 refine zF yU23 ?_
 refine s_mv ?_
 refine zf (zd (zl ?_))
 refine zaX (β:=Int) [4,5,8,9,10,11,12,13,14,15,16,17,18] [] [] (fun a=>[(8,.t (.sc (.int .i64 a.2)))]) (fun a=>[]) (fun a=>a.1≤fuel∧z6 a.1 x1 o1 a.2=some r∧0≤a.2) (fuel,0) ⟨Nat.le_refl _,F0,by simp⟩ ?_
 clear F0
 rintro ⟨fu,g1⟩ ⟨hl2,F1,hn_g1⟩
 dsimp only at hl2 F1 hn_g1 ⊢
 obtain _ | fu:=fu
 · rw [z6] at F1;cases F1
 rw [z6] at F1
 refine zb (za ?_)
 refine s_lt ?_
 refine zf (zd (zb ?_))
 refine zn F1 ?_ ?_<;>intro C3 F2
 refine zN 0 (fun B4=>?_)
 refine zi (zd (zb (zl (zb (za ?_)))))
 refine s_mv ?_
 refine s_as ?_
 refine zf (zd (zb (za ?_)))
 iterate 3 refine s_mv ?_
 obtain ⟨v5,V5,F3⟩:=zc F2
 refine zR Rule.row V5 (Rule.row_eq _) yE23 ?_
 refine zak yA37 yS37 ?_
 obtain ⟨v6,V6,F4⟩:=zc F3
 refine zL [(9000,9000)] [] _ _ (m_impl_rulesOk_1_ok fu _ _ _ V6) ?_
 refine zf (zd ?_)
 refine zn F4 ?_ ?_<;>intro C7 F5
 refine zb (za ?_)
 refine s_mv ?_
 refine s_as ?_
 refine zf (zd (zh (zj (zg (zw (zj (zg (zm ?_))))))))
 cases F5
 exact zk _ [] Tryz.results67
 refine zi (zU (zd (za ?_)))
 refine zH (zaq C3 B4 hn_g1) ?_
 refine s_mv ?_
 refine zf ?_
 exact s_rn (fu,(g1+1)) ⟨by first | omega | (dsimp only;omega),F5,by first | omega | (dsimp only;omega)⟩
 refine zA (zq (zp (zr (zd (zb (za ?_))))))
 refine s_as ?_
 refine zf (zd (zh (zm ?_)))
 cases F2
 exact zk _ [] Tryz.results67
def zfc (fuel:Nat):Prop:=∀ (x1:(List Rule)) (o1:(List Form)) (r:Bool),za5 fuel x1 o1=some r→AC Tryz.prog 27 [.t (.sl (x1.map Rule.row)),.fn 65 [.rf 9000 0]] (objs [(9000,.box [.t (.sl (o1.map Form.row))])]) (.t (.sc (.bool r))) (objs [(9000,.box [.t (.sl (o1.map Form.row))])])
theorem zfb (fuel:Nat):zfc fuel:=by
 intro x1 o1 r F0
 unfold za5 at F0
 refine AC_i [.t (.sc (.bool r))] Tryz.func27 rfl Tryz.ntmps27 ?_
 intro C hC
 refine zb (za ?_)
 refine s_as ?_
 refine zf (zd (zb (za ?_)))
 refine s_mv ?_
 refine s_mv ?_
 obtain ⟨v1,V1,F1⟩:=zc F0
 refine zL [(9000,9000)] [] _ _ (zfy fuel _ _ _ V1) ?_
 refine s_ge ?_
 refine s_as ?_
 refine zf (zd (zh (zm ?_)))
 cases F1
 exact zk _ [] Tryz.results27
def m_impl_rulesOk_AC (fuel:Nat):Prop:=∀ (x1:(List Rule)) (x2:(List Form)) (r:Bool),zeJ fuel x1 x2=some r→AC Tryz.prog 26 [.t (.sl (x1.map Rule.row)),.t (.sl (x2.map Form.row))] noOb (.t (.sc (.bool r))) noOb
theorem zhJ (fuel:Nat):m_impl_rulesOk_AC fuel:=by
 intro x1 x2 r F0
 unfold zeJ at F0
 refine AC_i [.t (.sc (.bool r))] Tryz.func26 rfl Tryz.ntmps26 ?_
 intro C hC
 refine zb (za ?_)
 refine za7 ?_
 refine s_as ?_
 refine zf (zd (zb (za ?_)))
 refine s_mv ?_
 refine zF yU23 ?_
 refine s_le ?_
 refine s_mv ?_
 refine zo _ 8 F0 ?_ ?_<;>intro C1 F1
 refine zu yA24 ?_
 obtain ⟨v2,V2,F2⟩:=zc F1
 refine zx [] (zgZ fuel _ _ V2) ?_
 refine zz ?_
 refine s_mv ?_
 refine zo _ 12 F2 ?_ ?_<;>intro C3 F3
 refine s_mv ?_
 refine s_fn ?_
 obtain ⟨v4,V4,F4⟩:=zc F3
 refine zL [(9000,3)] [] _ _ (zfb fuel _ _ _ V4) ?_
 refine za3 ?_
 refine zz ?_
 refine s_as ?_
 refine zf (zd (zh (zm ?_)))
 cases F4
 exact zk [] [] Tryz.results26
 iterate 4 refine r_no rfl ?_
 refine zy ?_
 refine s_as ?_
 refine zf (zd (zh (zm ?_)))
 cases F3
 exact zk [] [] Tryz.results26
 refine r_no rfl (r_no rfl ?_)
 refine zy ?_
 refine s_mv ?_
 iterate 4 refine r_no rfl ?_
 refine zy ?_
 refine s_as ?_
 refine zf (zd (zh (zm ?_)))
 cases F1
 exact zk [] [] Tryz.results26
def zfs (fuel:Nat):Prop:=∀ (x1:Form) (x2:Form) (x3:(List Form)) (r:Bool),zdP fuel x1 x2 x3=some r→AC Tryz.prog 29 [.ag [.t (.sc (.int .i64 x1.kind)),.t (.sc (.str x1.name)),.t (.sc (.int .i64 x1.n)),.t (.sl (x1.scopes.map rI)),.t (.sl (x1.kids.map Form.row))],.ag [.t (.sc (.int .i64 x2.kind)),.t (.sc (.str x2.name)),.t (.sc (.int .i64 x2.n)),.t (.sl (x2.scopes.map rI)),.t (.sl (x2.kids.map Form.row))],.t (.sl (x3.map Form.row))] noOb (.t (.sc (.bool r))) noOb
theorem m_impl_general_st (fu:Nat) (ih_m_impl_general:∀ k,k≤fu→zfs k):zfs (fu+1):=by
 intro x1 x2 x3 r F0
 rw [zdP] at F0
 refine AC_i [.t (.sc (.bool r))] Tryz.func29 rfl Tryz.ntmps29 ?_
 intro C hC
 refine zb (za ?_)
 refine za7 ?_
 refine za7 ?_
 refine s_as ?_
 refine zf (zd (zb (zl ?_)))
 refine zca (α:=Nat × Bool) [11,12,13,14,15,16,17,18] [] [] (fun a=>[(11,.t (.sc (.bool a.2)))]) (fun a=>[]) (fun a=>a.1≤fu∧zb9 a.1 x1 x2 x3 a.2=some r) ?_ ?_
 refine za ?_
 refine zI yA32 yS32 ?_
 refine s_mv ?_
 obtain ⟨v1,V1,F1⟩:=zc F0
 refine zx [] (m_impl_isVar_ok fu _ _ _ V1) ?_
 refine s_mv ?_
 refine zo _ 15 F1 ?_ ?_<;>intro C2 F2
 refine r_no rfl (r_no rfl ?_)
 refine zz ?_
 refine s_as ?_
 refine zf ?_
 exact s_jn (fu,true) ⟨by first | omega | (dsimp only;omega),F2⟩
 refine zI yA32 yS32 ?_
 obtain ⟨v3,V3,F3⟩:=zc F2
 refine zx [] (zaM fu _ _ _ V3) ?_
 refine zy ?_
 refine s_as ?_
 refine zf ?_
 exact s_jn (fu,v3) ⟨by first | omega | (dsimp only;omega),F3⟩
 clear F0
 rintro ⟨fu,g4⟩ ⟨hl5,F1⟩
 dsimp only at hl5 F1 ⊢
 obtain _ | fu:=fu
 · rw [zb9] at F1;cases F1
 rw [zb9] at F1
 refine zn F1 ?_ ?_<;>intro C6 F2
 refine zb (za ?_)
 refine s_as ?_
 refine zf (zd (zh (zj (zg (zm ?_)))))
 cases F2
 exact zk [] [] Tryz.results29
 refine zb (za ?_)
 refine s_fa zcN ?_
 refine zu yA3 ?_
 refine s_ne ?_
 refine s_as ?_
 refine zf (zd ?_)
 refine zn F2 ?_ ?_<;>intro C7 F3
 refine zb (za ?_)
 refine zI yA32 yS32 ?_
 refine zI yA32 yS32 ?_
 obtain ⟨v8,V8,F4⟩:=zc F3
 refine zx [] (zbz fu _ _ _ V8) ?_
 refine s_as ?_
 refine zf (zd (zh (zj (zg (zm ?_)))))
 cases F4
 exact zk [] [] Tryz.results29
 refine zca (α:=Nat × Bool) [26,27,28,29,30,31,32,33,34,35,36,37,38] [] [] (fun a=>[(26,.t (.sc (.bool a.2)))]) (fun a=>[]) (fun a=>a.1≤fu∧zb8 a.1 x1 x2 x3 a.2=some r) ?_ ?_
 refine za ?_
 refine s_fa zcN ?_
 refine zu yA3 ?_
 refine s_ne ?_
 refine s_mv ?_
 refine zo _ 30 F3 ?_ ?_<;>intro C9 F4
 iterate 7 refine r_no rfl ?_
 refine zz ?_
 refine s_as ?_
 refine zf ?_
 exact s_jn (fu,true) ⟨by first | omega | (dsimp only;omega),F4⟩
 refine s_fa zD ?_
 refine zu yA24 ?_
 refine zF yU24 ?_
 refine s_fa zD ?_
 refine zu yA24 ?_
 refine zF yU24 ?_
 refine s_ne ?_
 refine zy ?_
 refine s_as ?_
 refine zf ?_
 exact s_jn (fu,(decide ((x1.kids.length:Int)≠(x2.kids.length:Int)))) ⟨by first | omega | (dsimp only;omega),F4⟩
 clear F3
 rintro ⟨fu,g10⟩ ⟨hl11,F4⟩
 dsimp only at hl11 F4 ⊢
 obtain _ | fu:=fu
 · rw [zb8] at F4;cases F4
 rw [zb8] at F4
 refine zn F4 ?_ ?_<;>intro C12 F5
 refine zb (za ?_)
 refine s_as ?_
 refine zf (zd (zh (zj (zg (zm ?_)))))
 cases F5
 exact zk [] [] Tryz.results29
 refine zi (zU (zd (zb (zb (za ?_)))))
 refine s_fa zD ?_
 refine zu yA24 ?_
 refine zF yU24 ?_
 refine s_mv ?_
 refine zf (zd (zl ?_))
 refine zaX (β:=Int) [6,7,8,9,10,42,43,44,45,46,47,48,49,50,51,52,53,54,55,56,57,58,59,60,61,62,63,64,65,66,67,68,69,70,71,72,73] [] [8] (fun a=>[(42,.t (.sc (.int .i64 a.2)))]) (fun a=>[]) (fun a=>a.1≤fu∧zbP a.1 x1 x2 x3 a.2=some r∧0≤a.2) (fu,0) ⟨Nat.le_refl _,F5,by simp⟩ ?_
 clear F5
 rintro ⟨fu,g13⟩ ⟨hl14,F6,hn_g13⟩
 dsimp only at hl14 F6 hn_g13 ⊢
 obtain _ | fu:=fu
 · rw [zbP] at F6;cases F6
 rw [zbP] at F6
 refine zb (za ?_)
 refine s_lt ?_
 refine zf (zd (zb ?_))
 refine zn F6 ?_ ?_<;>intro C15 F7
 refine zN 40 (fun B16=>?_)
 refine zi (zd (zb (zl (zb (za ?_)))))
 refine s_mv ?_
 obtain ⟨v17,V17,F8⟩:=zc F7
 refine zR Form.row V17 (Form.row_eq _) yE24 ?_
 refine zak yA32 yS32 ?_
 refine z4 yZ32 ?_
 refine s_as ?_
 refine zal yS32 ?_
 refine zf (zd (zb ?_))
 refine zZ yMix (by kernel_rfl) ?_
 refine zI yA32 yS32 ?_
 obtain ⟨v18,V18,F9⟩:=zc F8
 refine zx [] (zaM fu _ _ _ V18) ?_
 refine s_fa zD ?_
 refine zu yA24 ?_
 refine s_mv ?_
 obtain ⟨v19,V19,F10⟩:=zc F9
 refine zR Form.row V19 (Form.row_eq _) yE24 ?_
 refine zak yA32 yS32 ?_
 obtain ⟨v20,V20,F11⟩:=zc F10
 refine zx [] (zaM fu _ _ _ V20) ?_
 refine s_as ?_
 refine s_as ?_
 refine zam (by kernel_rfl) ?_
 refine zd (zb ?_)
 refine zZ yMix (by kernel_rfl) ?_
 refine s_mv ?_
 refine s_mv ?_
 refine s_neB yU4 ?_
 refine s_mv ?_
 refine zo _ 58 F11 ?_ ?_<;>intro C21 F12
 iterate 13 refine r_no rfl ?_
 refine zz ?_
 refine zam (by kernel_rfl) ?_
 refine zd (zK rfl (zb (za ?_)))
 refine s_as ?_
 refine zf (zd (zh (zj (zg (zw (zj (zg (zm ?_))))))))
 cases F12
 exact zk [] [] Tryz.results29
 refine s_mv ?_
 refine za3 ?_
 refine s_mv ?_
 refine zo _ 61 F12 ?_ ?_<;>intro C22 F13
 refine zI yA32 yS32 ?_
 refine s_fa zD ?_
 refine zu yA24 ?_
 refine s_mv ?_
 obtain ⟨v23,V23,F14⟩:=zc F13
 refine zR Form.row V23 (Form.row_eq _) yE24 ?_
 refine zak yA32 yS32 ?_
 refine s_mv ?_
 obtain ⟨v24,V24,F15⟩:=zc F14
 refine zx [] (ih_m_impl_general fu (by omega) _ _ _ _ V24) ?_
 refine za3 ?_
 refine zz ?_
 refine zy ?_
 refine zam (by kernel_rfl) ?_
 refine zd ?_
 refine zn F15 ?_ ?_<;>intro C25 F16
 refine zb (za ?_)
 refine s_as ?_
 refine zf (zd (zh (zj (zg (zw (zj (zg (zm ?_))))))))
 cases F16
 exact zk [] [] Tryz.results29
 refine zi (zU (zd (za ?_)))
 refine zH (zaq C15 B16 hn_g13) ?_
 refine s_mv ?_
 refine zf ?_
 exact s_rn (fu,(g13+1)) ⟨by first | omega | (dsimp only;omega),F16,by first | omega | (dsimp only;omega)⟩
 iterate 9 refine r_no rfl ?_
 refine zy ?_
 refine zy ?_
 refine zam (by kernel_rfl) ?_
 refine zd (zaP rfl (zi (zU (zd (za ?_)))))
 refine zH (zaq C15 B16 hn_g13) ?_
 refine s_mv ?_
 refine zf ?_
 exact s_rn (fu,(g13+1)) ⟨by first | omega | (dsimp only;omega),F13,by first | omega | (dsimp only;omega)⟩
 refine zA (zq (zp (zr (zd (zb (za ?_))))))
 refine s_as ?_
 refine zf (zd (zh (zm ?_)))
 cases F7
 exact zk [] [] Tryz.results29
end Go.Abs
