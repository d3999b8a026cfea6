/- A part of the proof: what the functions that the law calls answer, as pure values. -/
import Derived.Test.YtpdacpnncmemgaaGreatKdfdf7487b8fc
import Derived.Test.YtpdacpnncmemgaaGreatK836a3054a2c5
import Derived.Test.YtpdacpnncmemgaaGreatKa3188cc5fca6
import Derived.Test.YtpdacpnncmemgaaGreatKa647db9ee9e6
import Derived.Test.YtpdacpnncmemgaaGreatK57e2d81719e9
import Derived.Test.YtpdacpnncmemgaaGreatKc98cbfbd34bf
import Derived.Test.YtpdacpnncmemgaaGreatKfaf2dbb53499
set_option linter.unusedSimpArgs false
set_option linter.unusedVariables false
set_option maxRecDepth 100000
set_option maxHeartbeats 4000000
namespace Go.Abs
open Go.Proofs
def m_spec_l5Less_AC (fuel:Nat):Prop:=∀ (x1:(List Hit)) (r:(List Hit)),zgb fuel x1=some r→AC Tryz.prog 143 [.t (.sl (x1.map Hit.row))] noOb (.t (.sl (r.map Hit.row))) noOb
theorem m_spec_l5Less_ok (fuel:Nat):m_spec_l5Less_AC fuel:=by
 intro x1 r F0
 unfold zgb at F0
 refine AC_i [.t (.sl (r.map Hit.row))] Tryz.func143 rfl Tryz.ntmps143 ?_
 intro C hC
 refine zb (za ?_)
 refine s_as ?_
 refine zf (zd (zb (za ?_)))
 refine s_bs Hit.row ([]:List Hit) yP42 yR55 ?_
 refine s_as ?_
 refine zf (zd (zb (zb (za ?_))))
 refine s_as ?_
 refine zf (zd (zl ?_))
 refine zdf 3 6 5020 (by conv=>lhs;whnf) (by conv=>lhs;whnf) rfl ?_
 refine zaz [3,4,5,7,8,9,10,11,12,13,14,15,16,17,18,19,20,21,22,23,24,25,26,27,28,29,30,31,32,33,34,35,36,37,38,39] [5020] [5,38,39] [5020] (fun a:Nat × (List Hit) × Int=>a.1) (fun a:Nat × (List Hit) × Int=>[(3,.ar 5020),(4,.t (.sc (.int .i64 a.2.2)))]) (fun a:Nat × (List Hit) × Int=>[(5020,.arr (a.2.1.map Hit.row) 55 true)]) (fun a:Nat × (List Hit) × Int=>a.1≤fuel∧zb0 a.1 x1 a.2.1 a.2.2=some r∧0≤a.2.2) (fuel,([]:List Hit),0) ⟨Nat.le_refl _,F0,by simp⟩ (by rfl) (by rfl) (fun _=>rfl) (zQ (by conv=>lhs;whnf) (by rfl) (zQ (by conv=>lhs;whnf) (by rfl) zbA)) (zV (by conv=>lhs;whnf) (by rfl) zbl) (zcq hC rfl) (by repeat (first | exact zai rfl | refine zax rfl ?_ | refine z8 rfl ?_)) (by repeat (first | exact zaU | exact zan rfl | refine zay rfl ?_ | refine z9 rfl ?_)) ?_
 clear F0
 rintro ⟨fu,g1,g2⟩ ⟨hl3,F1,hn_g2⟩
 dsimp only at hl3 F1 hn_g2 ⊢
 obtain _ | fu:=fu
 · rw [zb0] at F1;cases F1
 rw [zb0] at F1
 refine zb (zb (za ?_))
 refine s_mv ?_
 refine s_mv ?_
 refine zF yU42 ?_
 refine s_lt ?_
 refine zf (zd ?_)
 refine zn F1 ?_ ?_<;>intro C4 F2
 refine zN 0 (fun B5=>?_)
 refine zi (zd (zb (zl (zb ?_))))
 refine zZ yMix (by kernel_rfl) ?_
 refine s_mv ?_
 refine s_mv ?_
 obtain ⟨v6,V6,F3⟩:=zc F2
 refine zR Hit.row V6 (Hit.row_eq _) yE42 ?_
 refine s_fa yF55_0 ?_
 refine zak yA32 yS32 ?_
 refine s_mv ?_
 refine s_mv ?_
 obtain ⟨v7,V7,F4⟩:=zc F3
 refine zR Hit.row V7 (Hit.row_eq _) yE42 ?_
 refine s_fa yF55_1 ?_
 refine zu yA3 ?_
 refine s_mv ?_
 refine s_mv ?_
 obtain ⟨v8,V8,F5⟩:=zc F4
 refine zR Hit.row V8 (Hit.row_eq _) yE42 ?_
 refine s_fa yF55_2 ?_
 refine zak yA32 yS32 ?_
 refine zgQ yZ55 yL55 ?_
 refine z4 yZ55 ?_
 refine zal yS55 ?_
 refine zam (by kernel_rfl) ?_
 refine zd (zb (zb (za ?_)))
 refine s_fa yF55_1 ?_
 refine zu yA3 ?_
 refine s_gt ?_
 refine zf (zd ?_)
 refine zn F5 ?_ ?_<;>intro C9 F6
 refine za ?_
 refine s_fa yF55_1 ?_
 refine zu yA3 ?_
 refine s_sub rfl ?_
 refine s_fa yF55_1 ?_
 refine s_stP yS3 ?_
 refine zf (zd (za ?_))
 refine s_mv ?_
 refine zI yA55 yS55 ?_
 refine s_bs Hit.row [(Hit.mk v6.name (w64 (v7.depth-1)) v8.one ([]:List Hit))] yP42 yR55 ?_
 obtain ⟨hk10,F7⟩:=zat F6
 refine zfw Hit.row (fun y=>Hit.row_len y) hk10 yP42 ?_
 refine s_as ?_
 refine zf (zU (zd (za ?_)))
 refine s_mv ?_
 refine zH (zaq C4 B5 hn_g2) ?_
 refine s_as ?_
 refine zf ?_
 exact s_rn (fu,(g1++[(Hit.mk v6.name (w64 (v7.depth-1)) v8.one ([]:List Hit))]),(g2+1)) ⟨by first | omega | (dsimp only;omega),F7,by first | omega | (dsimp only;omega)⟩ [(5020,39)]
 refine zi (zd (za ?_))
 refine s_mv ?_
 refine zI yA55 yS55 ?_
 refine s_bs Hit.row [(Hit.mk v6.name v7.depth v8.one ([]:List Hit))] yP42 yR55 ?_
 obtain ⟨hk11,F7⟩:=zat F6
 refine zfw Hit.row (fun y=>Hit.row_len y) hk11 yP42 ?_
 refine s_as ?_
 refine zf (zU (zd (za ?_)))
 refine s_mv ?_
 refine zH (zaq C4 B5 hn_g2) ?_
 refine s_as ?_
 refine zf ?_
 exact s_rn (fu,(g1++[(Hit.mk v6.name v7.depth v8.one ([]:List Hit))]),(g2+1)) ⟨by first | omega | (dsimp only;omega),F7,by first | omega | (dsimp only;omega)⟩ [(5020,39)]
 refine zA (zq (zp (zr (zd (zb (za ?_))))))
 refine s_mv ?_
 refine s_as ?_
 refine zf (zd (zh (zm ?_)))
 cases F2
 exact zk [] [5020] Tryz.results143
def zgE (fuel:Nat):Prop:=∀ (x1:Form) (x2:(List Hit)) (r:Bool),zdH fuel x1 x2=some r→AC Tryz.prog 96 [.ag [.t (.sc (.int .i64 x1.kind)),.t (.sc (.str x1.name)),.t (.sc (.int .i64 x1.n)),.t (.sl (x1.scopes.map rI)),.t (.sl (x1.kids.map Form.row))],.t (.sl (x2.map Hit.row))] noOb (.t (.sc (.bool r))) noOb
theorem m_spec_l5Is_st (fu:Nat) (ih_m_spec_l5Is:∀ k,k≤fu→zgE k):zgE (fu+1):=by
 intro x1 x2 r F0
 rw [zdH] at F0
 refine AC_i [.t (.sc (.bool r))] Tryz.func96 rfl Tryz.ntmps96 ?_
 intro C hC
 refine zb (za ?_)
 refine za7 ?_
 refine s_as ?_
 refine zf (zd (zb (zb (za ?_))))
 refine zI yA32 yS32 ?_
 obtain ⟨v1,V1,F1⟩:=zc F0
 refine zx [] (za0 fu _ _ V1) ?_
 refine s_mv ?_
 refine zo _ 8 F1 ?_ ?_<;>intro C2 F2
 iterate 4 refine r_no rfl ?_
 refine zz ?_
 refine zf (zd (zK rfl (zb (za ?_))))
 refine s_as ?_
 refine zf (zd (zh (zg (zm ?_))))
 cases F2
 exact zk [] [] Tryz.results96
 refine s_mv ?_
 refine zI yA32 yS32 ?_
 obtain ⟨v3,V3,F3⟩:=zc F2
 refine zx [] (zhF fu _ _ _ V3) ?_
 refine s_gt ?_
 refine zy ?_
 refine zf (zd ?_)
 refine zn F3 ?_ ?_<;>intro C4 F4
 refine zb (za ?_)
 refine s_as ?_
 refine zf (zd (zh (zg (zm ?_))))
 cases F4
 exact zk [] [] Tryz.results96
 refine zi (zd (zb (zb (za ?_))))
 refine s_as ?_
 refine zf (zd (zl ?_))
 refine zaX (β:=Int) [4,5,14,15,16,17,18,19,20,21,22,23,24,25,26,27,28,29,30,31,32,33,34,35,36,37,38,39,40,41,42,43,44,45,46,47,48,49,50,51,52,53,54,55,56,57,58,59,60,61,62,63,64,65,66,67,68,69,70,71,72,73,74,75,76,77,78,79] [] [] (fun a=>[(5,.t (.sc (.int .i64 a.2)))]) (fun a=>[]) (fun a=>a.1≤fu∧zbJ a.1 x1 x2 a.2=some r∧0≤a.2) (fu,0) ⟨Nat.le_refl _,F4,by simp⟩ ?_
 clear F4
 rintro ⟨fu,g5⟩ ⟨hl6,F5,hn_g5⟩
 dsimp only at hl6 F5 hn_g5 ⊢
 obtain _ | fu:=fu
 · rw [zbJ] at F5;cases F5
 rw [zbJ] at F5
 refine zb (zb (za ?_))
 refine s_mv ?_
 refine s_fa zD ?_
 refine zu yA24 ?_
 refine zF yU24 ?_
 refine s_lt ?_
 refine zf (zd ?_)
 refine zn F5 ?_ ?_<;>intro C7 F6
 refine zN 16 (fun B8=>?_)
 refine zi (zd (zb (zl (zb (zb (za ?_))))))
 refine s_fa zD ?_
 refine zu yA24 ?_
 refine s_mv ?_
 obtain ⟨v9,V9,F7⟩:=zc F6
 refine zR Form.row V9 (Form.row_eq _) yE24 ?_
 refine zak yA32 yS32 ?_
 obtain ⟨v10,V10,F8⟩:=zc F7
 refine zx [] (za0 fu _ _ V10) ?_
 refine zf (zd ?_)
 refine zn F8 ?_ ?_<;>intro C11 F9
 refine zb (zb (za ?_))
 refine s_mv ?_
 refine s_eq ?_
 refine s_mv ?_
 refine zo _ 29 F9 ?_ ?_<;>intro C12 F10
 iterate 7 refine r_no rfl ?_
 refine zz ?_
 refine zf (zd (zK rfl (zb (za ?_))))
 refine s_as ?_
 refine zf (zd (zh (zg (zg (zj (zg (zw (zj (zg (zm ?_))))))))))
 cases F10
 exact zk [] [] Tryz.results96
 refine s_fa zD ?_
 refine zu yA24 ?_
 refine s_mv ?_
 refine s_sub rfl ?_
 obtain ⟨v13,V13,F11⟩:=zc F10
 refine zR Form.row V13 (Form.row_eq _) yE24 ?_
 refine zak yA32 yS32 ?_
 obtain ⟨v14,V14,F12⟩:=zc F11
 refine zx [] (za0 fu _ _ V14) ?_
 refine zy ?_
 refine zf (zd ?_)
 refine zn F12 ?_ ?_<;>intro C15 F13
 refine zb (za ?_)
 refine s_as ?_
 refine zf (zd (zh (zg (zg (zj (zg (zw (zj (zg (zm ?_))))))))))
 cases F13
 exact zk [] [] Tryz.results96
 refine zi (zd (zA (zq (zr (zd (za ?_))))))
 refine s_mv ?_
 refine zH (zaq C7 B8 hn_g5) ?_
 refine s_as ?_
 refine zf ?_
 exact s_rn (fu,(g5+1)) ⟨by first | omega | (dsimp only;omega),F13,by first | omega | (dsimp only;omega)⟩
 refine zi (zd (zb (zb (za ?_))))
 refine s_mv ?_
 refine zH (zaq C7 B8 hn_g5) ?_
 refine s_fa zD ?_
 refine zu yA24 ?_
 refine zF yU24 ?_
 refine s_lt ?_
 refine s_mv ?_
 refine zo _ 44 F9 ?_ ?_<;>intro C16 F10
 refine s_fa zD ?_
 refine zu yA24 ?_
 refine s_mv ?_
 refine zH (zaq C7 B8 hn_g5) ?_
 obtain ⟨v17,V17,F11⟩:=zc F10
 refine zR Form.row V17 (Form.row_eq _) yE24 ?_
 refine zak yA32 yS32 ?_
 obtain ⟨v18,V18,F12⟩:=zc F11
 refine zx [] (za0 fu _ _ V18) ?_
 refine zz ?_
 refine zf (zd ?_)
 refine zn F12 ?_ ?_<;>intro C19 F13
 refine zb (zb ?_)
 refine zZ yMix (by kernel_rfl) ?_
 refine s_mv ?_
 refine s_fa zD ?_
 refine zu yA24 ?_
 refine s_mv ?_
 obtain ⟨v20,V20,F14⟩:=zc F13
 refine zR Form.row V20 (Form.row_eq _) yE24 ?_
 refine zak yA32 yS32 ?_
 obtain ⟨v21,V21,F15⟩:=zc F14
 refine zx [] (m_spec_l5Rows_ok fu _ _ _ V21) ?_
 refine za3 ?_
 refine s_mv ?_
 refine zo _ 61 F15 ?_ ?_<;>intro C22 F16
 iterate 9 refine r_no rfl ?_
 refine zz ?_
 refine zam (by kernel_rfl) ?_
 refine zd (zK rfl (zb (za ?_)))
 refine s_as ?_
 refine zf (zd (zh (zg (zg (zj (zg (zw (zj (zg (zm ?_))))))))))
 cases F16
 exact zk [] [] Tryz.results96
 refine s_fa zD ?_
 refine zu yA24 ?_
 refine s_mv ?_
 obtain ⟨v23,V23,F17⟩:=zc F16
 refine zR Form.row V23 (Form.row_eq _) yE24 ?_
 refine zak yA32 yS32 ?_
 refine s_mv ?_
 obtain ⟨v24,V24,F18⟩:=zc F17
 refine zx [] (m_spec_l5Less_ok fu _ _ V24) ?_
 obtain ⟨v25,V25,F19⟩:=zc F18
 refine zx [] (ih_m_spec_l5Is fu (by omega) _ _ _ V25) ?_
 refine za3 ?_
 refine zy ?_
 refine zam (by kernel_rfl) ?_
 refine zd ?_
 refine zn F19 ?_ ?_<;>intro C26 F20
 refine zb (za ?_)
 refine s_as ?_
 refine zf (zd (zh (zg (zg (zj (zg (zw (zj (zg (zm ?_))))))))))
 cases F20
 exact zk [] [] Tryz.results96
 refine zi (zd (zA (zq (zr (zd (za ?_))))))
 refine s_mv ?_
 refine zH (zaq C7 B8 hn_g5) ?_
 refine s_as ?_
 refine zf ?_
 exact s_rn (fu,(g5+1)) ⟨by first | omega | (dsimp only;omega),F20,by first | omega | (dsimp only;omega)⟩
 refine zi (zd (zb (za ?_)))
 refine s_fa zD ?_
 refine zu yA24 ?_
 refine s_mv ?_
 obtain ⟨v27,V27,F14⟩:=zc F13
 refine zR Form.row V27 (Form.row_eq _) yE24 ?_
 refine zak yA32 yS32 ?_
 refine s_mv ?_
 obtain ⟨v28,V28,F15⟩:=zc F14
 refine zx [] (ih_m_spec_l5Is fu (by omega) _ _ _ V28) ?_
 refine za3 ?_
 refine zf (zd ?_)
 refine zn F15 ?_ ?_<;>intro C29 F16
 refine zb (za ?_)
 refine s_as ?_
 refine zf (zd (zh (zj (zg (zw (zj (zg (zm ?_))))))))
 cases F16
 exact zk [] [] Tryz.results96
 refine zi (zU (zd (za ?_)))
 refine s_mv ?_
 refine zH (zaq C7 B8 hn_g5) ?_
 refine s_as ?_
 refine zf ?_
 exact s_rn (fu,(g5+1)) ⟨by first | omega | (dsimp only;omega),F16,by first | omega | (dsimp only;omega)⟩
 iterate 7 refine r_no rfl ?_
 refine zy ?_
 refine zf (zd (zaP rfl (zi (zd (zb (za ?_))))))
 refine s_fa zD ?_
 refine zu yA24 ?_
 refine s_mv ?_
 obtain ⟨v30,V30,F11⟩:=zc F10
 refine zR Form.row V30 (Form.row_eq _) yE24 ?_
 refine zak yA32 yS32 ?_
 refine s_mv ?_
 obtain ⟨v31,V31,F12⟩:=zc F11
 refine zx [] (ih_m_spec_l5Is fu (by omega) _ _ _ V31) ?_
 refine za3 ?_
 refine zf (zd ?_)
 refine zn F12 ?_ ?_<;>intro C32 F13
 refine zb (za ?_)
 refine s_as ?_
 refine zf (zd (zh (zj (zg (zw (zj (zg (zm ?_))))))))
 cases F13
 exact zk [] [] Tryz.results96
 refine zi (zU (zd (za ?_)))
 refine s_mv ?_
 refine zH (zaq C7 B8 hn_g5) ?_
 refine s_as ?_
 refine zf ?_
 exact s_rn (fu,(g5+1)) ⟨by first | omega | (dsimp only;omega),F13,by first | omega | (dsimp only;omega)⟩
 refine zA (zq (zp (zr (zd (zb (za ?_))))))
 refine s_as ?_
 refine zf (zd (zh (zm ?_)))
 cases F6
 exact zk [] [] Tryz.results96
theorem m_spec_l5Is_all (fuel:Nat):zgE fuel:=by
 induction fuel using Nat.strongRecOn with
 | _ N ih =>
   cases N with
   | zero=>exact (by intro x1 x2 r h;rw [zdH] at h;cases h)
   | succ fu=>exact m_spec_l5Is_st fu (fun k hk=>(ih k (by omega)))
theorem m_spec_l5Is_ok (fuel:Nat):zgE fuel:=(m_spec_l5Is_all fuel)
def m_spec_l5Rule_AC (fuel:Nat):Prop:=∀ (x1:Rule) (x2:(List Form)) (r:Bool),zc2 fuel x1 x2=some r→AC Tryz.prog 70 [.ag [.t (.sc (.int .i64 x1.pattern.kind)),.t (.sc (.str x1.pattern.name)),.t (.sc (.int .i64 x1.pattern.n)),.t (.sl (x1.pattern.scopes.map rI)),.t (.sl (x1.pattern.kids.map Form.row)),.t (.sc (.int .i64 x1.template.kind)),.t (.sc (.str x1.template.name)),.t (.sc (.int .i64 x1.template.n)),.t (.sl (x1.template.scopes.map rI)),.t (.sl (x1.template.kids.map Form.row))],.t (.sl (x2.map Form.row))] noOb (.t (.sc (.bool r))) noOb
theorem m_spec_l5Rule_ok (fuel:Nat):m_spec_l5Rule_AC fuel:=by
 intro x1 x2 r F0
 unfold zc2 at F0
 refine AC_i [.t (.sc (.bool r))] Tryz.func70 rfl Tryz.ntmps70 ?_
 intro C hC
 refine zb (za ?_)
 refine za7 ?_
 refine s_as ?_
 refine zf (zd (zb ?_))
 refine zZ yMix (by kernel_rfl) ?_
 refine s_fa zhp ?_
 refine zak yA32 yS32 ?_
 refine s_mv ?_
 obtain ⟨v1,V1,F1⟩:=zc F0
 refine zx [] (m_spec_l4Is_ok fuel _ _ _ V1) ?_
 refine s_mv ?_
 refine zo _ 9 F1 ?_ ?_<;>intro C2 F2
 refine s_fa zhp ?_
 refine s_fa zcN ?_
 refine zu yA3 ?_
 refine s_eq ?_
 refine zz ?_
 refine s_mv ?_
 refine zo _ 15 F2 ?_ ?_<;>intro C3 F3
 refine s_fa zhp ?_
 refine s_fa zD ?_
 refine zu yA24 ?_
 refine zF yU24 ?_
 refine s_gt ?_
 refine zz ?_
 refine s_mv ?_
 refine zo _ 22 F3 ?_ ?_<;>intro C4 F4
 refine s_fa yF37_1 ?_
 refine zak yA32 yS32 ?_
 obtain ⟨v5,V5,F5⟩:=zc F4
 refine zx [] (zdm fuel _ _ V5) ?_
 refine zz ?_
 refine s_mv ?_
 refine zo _ 27 F5 ?_ ?_<;>intro C6 F6
 refine s_fa yF37_1 ?_
 refine zak yA32 yS32 ?_
 refine s_fa zhp ?_
 refine zak yA32 yS32 ?_
 refine s_mv ?_
 obtain ⟨v7,V7,F7⟩:=zc F6
 refine zx [] (m_spec_l5Shape_ok fuel _ _ _ V7) ?_
 obtain ⟨v8,V8,F8⟩:=zc F7
 refine zx [] (m_spec_l5Is_ok fuel _ _ _ V8) ?_
 refine zz ?_
 refine s_as ?_
 refine zam (by kernel_rfl) ?_
 refine zd (zh (zm ?_))
 cases F8
 exact zk [] [] Tryz.results70
 iterate 7 refine r_no rfl ?_
 refine zy ?_
 refine s_as ?_
 refine zam (by kernel_rfl) ?_
 refine zd (zh (zm ?_))
 cases F6
 exact zk [] [] Tryz.results70
 iterate 3 refine r_no rfl ?_
 refine zy ?_
 refine s_mv ?_
 iterate 7 refine r_no rfl ?_
 refine zy ?_
 refine s_as ?_
 refine zam (by kernel_rfl) ?_
 refine zd (zh (zm ?_))
 cases F4
 exact zk [] [] Tryz.results70
 iterate 5 refine r_no rfl ?_
 refine zy ?_
 refine s_mv ?_
 iterate 3 refine r_no rfl ?_
 refine zy ?_
 refine s_mv ?_
 iterate 7 refine r_no rfl ?_
 refine zy ?_
 refine s_as ?_
 refine zam (by kernel_rfl) ?_
 refine zd (zh (zm ?_))
 cases F3
 exact zk [] [] Tryz.results70
 iterate 4 refine r_no rfl ?_
 refine zy ?_
 refine s_mv ?_
 iterate 5 refine r_no rfl ?_
 refine zy ?_
 refine s_mv ?_
 iterate 3 refine r_no rfl ?_
 refine zy ?_
 refine s_mv ?_
 iterate 7 refine r_no rfl ?_
 refine zy ?_
 refine s_as ?_
 refine zam (by kernel_rfl) ?_
 refine zd (zh (zm ?_))
 cases F2
 exact zk [] [] Tryz.results70
def m_spec_l5Rules_AC (fuel:Nat):Prop:=∀ (x1:(List Rule)) (x2:(List Form)) (r:Bool),zeG fuel x1 x2=some r→AC Tryz.prog 30 [.t (.sl (x1.map Rule.row)),.t (.sl (x2.map Form.row))] noOb (.t (.sc (.bool r))) noOb
theorem zhE (fuel:Nat):m_spec_l5Rules_AC fuel:=by
 intro x1 x2 r F0
 unfold zeG at F0
 refine AC_i [.t (.sc (.bool r))] Tryz.func30 rfl Tryz.ntmps30 ?_
 intro C hC
 refine zb (za ?_)
 refine s_as ?_
 refine zf (zd (zb (zb (za ?_))))
 refine s_as ?_
 refine zf (zd (zl ?_))
 refine zaX (β:=Int) [4,5,6,7,8,9,10,11,12,13,14,15,16,17,18,19,20,21,22] [] [] (fun a=>[(5,.t (.sc (.int .i64 a.2)))]) (fun a=>[]) (fun a=>a.1≤fuel∧zb3 a.1 x1 x2 a.2=some r) (fuel,0) ⟨Nat.le_refl _,F0⟩ ?_
 clear F0
 rintro ⟨fu,g1⟩ ⟨hl2,F1⟩
 dsimp only at hl2 F1 ⊢
 obtain _ | fu:=fu
 · rw [zb3] at F1;cases F1
 rw [zb3] at F1
 refine zb ?_
 refine zca (α:=Nat × Bool) [6,7,8,9,10,11,12,13] [] [] (fun a=>[(13,.t (.sc (.bool a.2)))]) (fun a=>[]) (fun a=>a.1≤fu∧zb4 a.1 x1 x2 g1 a.2=some r) ?_ ?_
 refine za ?_
 refine s_mv ?_
 refine s_mv ?_
 refine zF yU23 ?_
 refine s_lt ?_
 refine s_mv ?_
 refine zo _ 10 F1 ?_ ?_<;>intro C3 F2
 refine s_mv ?_
 refine s_lt ?_
 refine zz ?_
 refine zf ?_
 exact s_jn (fu,(decide (g1 < 10))) ⟨by first | omega | (dsimp only;omega),F2⟩
 refine r_no rfl (r_no rfl ?_)
 refine zy ?_
 refine zf ?_
 exact s_jn (fu,false) ⟨by first | omega | (dsimp only;omega),F2⟩
 clear F1
 rintro ⟨fu,g4⟩ ⟨hl5,F2⟩
 dsimp only at hl5 F2 ⊢
 obtain _ | fu:=fu
 · rw [zb4] at F2;cases F2
 rw [zb4] at F2
 refine zn F2 ?_ ?_<;>intro C6 F3
 refine zi (zd (zb (zl (zb (za ?_)))))
 refine s_mv ?_
 refine s_mv ?_
 obtain ⟨v7,V7,F4⟩:=zc F3
 refine zR Rule.row V7 (Rule.row_eq _) yE23 ?_
 refine zak yA37 yS37 ?_
 refine s_mv ?_
 obtain ⟨v8,V8,F5⟩:=zc F4
 refine zx [] (m_spec_l5Rule_ok fu _ _ _ V8) ?_
 refine za3 ?_
 refine zf (zd ?_)
 refine zn F5 ?_ ?_<;>intro C9 F6
 refine zb (za ?_)
 refine s_as ?_
 refine zf (zd (zh (zj (zg (zw (zj (zg (zm ?_))))))))
 cases F6
 exact zk [] [] Tryz.results30
 refine zi (zU (zd (za ?_)))
 refine s_mv ?_
 refine zH rfl ?_
 refine s_as ?_
 refine zf ?_
 exact s_rn (fu,(w64 (g1+1))) ⟨by first | omega | (dsimp only;omega),F6⟩
 refine zA (zq (zp (zr (zd (zb (za ?_))))))
 refine s_mv ?_
 refine zF yU23 ?_
 refine s_lt ?_
 refine s_mv ?_
 refine zo _ 26 F3 ?_ ?_<;>intro C10 F4
 refine s_mv ?_
 obtain ⟨v11,V11,F5⟩:=zc F4
 refine zx [] (zgW fu _ _ V11) ?_
 refine zz ?_
 refine s_as ?_
 refine zf (zd (zh (zm ?_)))
 cases F5
 exact zk [] [] Tryz.results30
 refine r_no rfl (r_no rfl ?_)
 refine zy ?_
 refine s_as ?_
 refine zf (zd (zh (zm ?_)))
 cases F4
 exact zk [] [] Tryz.results30
def m_spec_ParseRules_AC (fuel:Nat):Prop:=∀ (x1:Form) (r:((List Form) × (List Rule) × Bool)),zcv fuel x1=some r→AC Tryz.prog 62 [.ag [.t (.sc (.int .i64 x1.kind)),.t (.sc (.str x1.name)),.t (.sc (.int .i64 x1.n)),.t (.sl (x1.scopes.map rI)),.t (.sl (x1.kids.map Form.row))]] (objs []) (.tp [.t (.sl (r.1.map Form.row)),.ar 9300,.t (.sc (.bool r.2.2))]) (objs [(9300,.arr (r.2.1.map Rule.row) 37 false)])
theorem zgX (fuel:Nat):m_spec_ParseRules_AC fuel:=by
 intro x1 r F0
 unfold zcv at F0
 refine AC_i [.t (.sl (r.1.map Form.row)),.ar 9300,.t (.sc (.bool r.2.2))] Tryz.func62 rfl Tryz.ntmps62 ?_
 intro C hC
 refine zb (za ?_)
 refine za7 ?_
 iterate 3 refine s_as ?_
 refine zf (zd (zb (za ?_)))
 refine s_bs Form.row ([]:List Form) yP24 yR32 ?_
 refine s_as ?_
 refine zf (zd (zb (za ?_)))
 refine s_bs Rule.row ([]:List Rule) yP23 yR37 ?_
 refine s_as ?_
 refine zf (zd (zb ?_))
 refine zca (α:=Nat × Bool) [11,12,13,14,15,16,17,18,19,20,21,22,23,24,25,26,27,28,29,30,31,32,33,34,35,36,37,38,39,40] [] [] (fun a=>[(40,.t (.sc (.bool a.2)))]) (fun a=>[]) (fun a=>a.1≤fuel∧zaw a.1 x1 a.2=some r) ?_ ?_
 refine za ?_
 refine zI yA32 yS32 ?_
 obtain ⟨v1,V1,F1⟩:=zc F0
 refine zx [] (zdm fuel _ _ V1) ?_
 refine za3 ?_
 refine s_mv ?_
 refine zo _ 14 F1 ?_ ?_<;>intro C2 F2
 iterate 3 refine r_no rfl ?_
 refine zz ?_
 refine s_mv ?_
 iterate 4 refine r_no rfl ?_
 refine zz ?_
 refine s_mv ?_
 iterate 6 refine r_no rfl ?_
 refine zz ?_
 refine s_mv ?_
 iterate 6 refine r_no rfl ?_
 refine zz ?_
 refine zf ?_
 exact s_jn (fuel,true) ⟨by first | omega | (dsimp only;omega),F2⟩
 refine s_fa zcN ?_
 refine zu yA3 ?_
 refine s_ne ?_
 refine zy ?_
 refine s_mv ?_
 refine zo _ 19 F2 ?_ ?_<;>intro C3 F3
 iterate 4 refine r_no rfl ?_
 refine zz ?_
 refine s_mv ?_
 iterate 6 refine r_no rfl ?_
 refine zz ?_
 refine s_mv ?_
 iterate 6 refine r_no rfl ?_
 refine zz ?_
 refine zf ?_
 exact s_jn (fuel,true) ⟨by first | omega | (dsimp only;omega),F3⟩
 refine s_fa zD ?_
 refine zu yA24 ?_
 refine zF yU24 ?_
 refine s_lt ?_
 refine zy ?_
 refine s_mv ?_
 refine zo _ 25 F3 ?_ ?_<;>intro C4 F4
 iterate 6 refine r_no rfl ?_
 refine zz ?_
 refine s_mv ?_
 iterate 6 refine r_no rfl ?_
 refine zz ?_
 refine zf ?_
 exact s_jn (fuel,true) ⟨by first | omega | (dsimp only;omega),F4⟩
 refine s_fa zD ?_
 refine zu yA24 ?_
 obtain ⟨v5,V5,F5⟩:=zc F4
 refine zR Form.row V5 (Form.row_eq _) yE24 ?_
 refine s_fa zcB ?_
 refine zu yA9 ?_
 refine s_neS ?_
 refine zy ?_
 refine s_mv ?_
 refine zo _ 33 F5 ?_ ?_<;>intro C6 F6
 iterate 6 refine r_no rfl ?_
 refine zz ?_
 refine zf ?_
 exact s_jn (fuel,true) ⟨by first | omega | (dsimp only;omega),F6⟩
 refine s_fa zD ?_
 refine zu yA24 ?_
 obtain ⟨v7,V7,F7⟩:=zc F6
 refine zR Form.row V7 (Form.row_eq _) yE24 ?_
 refine s_fa zcN ?_
 refine zu yA3 ?_
 refine s_ne ?_
 refine zy ?_
 refine zf ?_
 exact s_jn (fuel,(decide (v7.kind≠3))) ⟨by first | omega | (dsimp only;omega),F7⟩
 clear F0
 rintro ⟨fu,g8⟩ ⟨hl9,F1⟩
 dsimp only at hl9 F1 ⊢
 obtain _ | fu:=fu
 · rw [zaw] at F1;cases F1
 rw [zaw] at F1
 refine zn F1 ?_ ?_<;>intro C10 F2
 refine zb (za ?_)
 refine s_mv ?_
 refine s_mv ?_
 iterate 3 refine s_as ?_
 refine zf (zd ?_)
 refine zdf 3 10 9300 (by conv=>lhs;whnf) (by conv=>lhs;whnf) rfl ?_
 refine awp_frz 9300 (by conv=>lhs;whnf) ?_
 refine zh (zg (zm ?_))
 cases F2
 exact zk _ [9] Tryz.results62
 refine zi (zd ?_)
 refine zca (α:=Nat × (List Form)) [5,7,43,44,45,46,47,48,49,50,51,52,53,54,55,56,57,58,59,60,61,62,63,64] [9,5060] [] (fun a=>[(5,.ar 5060)]) (fun a=>[(9,.dead),(5060,.arr (a.2.map Form.row) 32 true)]) (fun a=>a.1≤fu∧zci a.1 x1 a.2=some r) ?_ ?_
 refine zb (za ?_)
 refine s_as ?_
 refine zf (zd (zl ?_))
 refine zdf 5 9 5060 (by conv=>lhs;whnf) (by conv=>lhs;whnf) rfl ?_
 refine zaz [5,7,43,44,45,46,47,48,49,50,51,52,53,54,55,56,57,58,59,60,61,62,63,64] [5060] [63,64,2062,12062] [5060] (fun a:Nat × (List Form) × Int=>a.1) (fun a:Nat × (List Form) × Int=>[(5,.ar 5060),(7,.t (.sc (.int .i64 a.2.2)))]) (fun a:Nat × (List Form) × Int=>[(5060,.arr (a.2.1.map Form.row) 32 true)]) (fun a:Nat × (List Form) × Int=>a.1≤fu∧zbo a.1 x1 a.2.1 a.2.2=some r∧0≤a.2.2) (fu,([]:List Form),0) ⟨Nat.le_refl _,F2,by simp⟩ (by rfl) (by rfl) (fun _=>rfl) (zQ (by conv=>lhs;whnf) (by rfl) (zQ (by conv=>lhs;whnf) (by rfl) zbA)) (zV (by conv=>lhs;whnf) (by rfl) zbl) (zcq hC rfl) (by repeat (first | exact zai rfl | refine zax rfl ?_ | refine z8 rfl ?_)) (by repeat (first | exact zaU | exact zan rfl | refine zay rfl ?_ | refine z9 rfl ?_)) ?_
 clear F2
 rintro ⟨fu,g11,g12⟩ ⟨hl13,F3,hn_g12⟩
 dsimp only at hl13 F3 hn_g12 ⊢
 obtain _ | fu:=fu
 · rw [zbo] at F3;cases F3
 rw [zbo] at F3
 refine zb (zb (za ?_))
 refine s_mv ?_
 refine s_fa zD ?_
 refine zu yA24 ?_
 obtain ⟨v14,V14,F4⟩:=zc F3
 refine zR Form.row V14 (Form.row_eq _) yE24 ?_
 refine s_fa zD ?_
 refine zu yA24 ?_
 refine zF yU24 ?_
 refine s_lt ?_
 refine zf (zd ?_)
 refine zn F4 ?_ ?_<;>intro C15 F5
 refine zN 48 (fun B16=>?_)
 refine zi (zd (zb (zl (za ?_))))
 refine s_mv ?_
 refine s_fa zD ?_
 refine zu yA24 ?_
 obtain ⟨v17,V17,F6⟩:=zc F5
 refine zR Form.row V17 (Form.row_eq _) yE24 ?_
 refine s_fa zD ?_
 refine zu yA24 ?_
 refine s_mv ?_
 obtain ⟨v18,V18,F7⟩:=zc F6
 refine zR Form.row V18 (Form.row_eq _) yE24 ?_
 refine zak yA32 yS32 ?_
 obtain ⟨v19,V19,F8⟩:=zc F7
 refine zL [(9203,2062),(9204,12062)] [] _ _ (zem fu _ _ V19) ?_
 refine s_bs Form.row [v19] yP24 yR32 ?_
 obtain ⟨hk20,F9⟩:=zat F8
 refine zfw Form.row (fun y=>Form.row_len y) hk20 yP24 ?_
 refine s_as ?_
 refine zf (zU (zd (za ?_)))
 refine s_mv ?_
 refine zH (zaq C15 B16 hn_g12) ?_
 refine s_as ?_
 refine zf ?_
 exact s_rn (fu,(g11++[v19]),(g12+1)) ⟨by first | omega | (dsimp only;omega),F9,by first | omega | (dsimp only;omega)⟩ [(5060,64)]
 refine zA (zq (zp (zr ?_)))
 exact s_jn (fu,g11) ⟨by first | omega | (dsimp only;omega),F5⟩
 clear F2
 rintro ⟨fu,g21⟩ ⟨hl22,F3⟩
 dsimp only at hl22 F3 ⊢
 obtain _ | fu:=fu
 · rw [zci] at F3;cases F3
 rw [zci] at F3
 refine zca (α:=Nat × (List Rule)) [2,3,4,6,8,65,66,67,68,69,70,71,72,73,74,75,76,77,78,79,80,81,82,83,84,85,86,87,88,89,90,91,92,93,94,95,96,97,98,99,100,101,102,103,104,105,106,107,108,109,110,111,112] [10,5100] [] (fun a=>[(6,.ar 5100)]) (fun a=>[(10,.dead),(5100,.arr (a.2.map Rule.row) 37 true)]) (fun a=>a.1≤fu∧zcX a.1 g21 a.2=some r) ?_ ?_
 refine zb (za ?_)
 refine s_as ?_
 refine zf (zd (zl ?_))
 refine zdf 6 10 5100 (by conv=>lhs;whnf) (by conv=>lhs;whnf) rfl ?_
 refine zaz [2,3,4,6,8,65,66,67,68,69,70,71,72,73,74,75,76,77,78,79,80,81,82,83,84,85,86,87,88,89,90,91,92,93,94,95,96,97,98,99,100,101,102,103,104,105,106,107,108,109,110,111,112] [5100] [111,112,2100,2109,12100,12109] [5100] (fun a:Nat × (List Rule) × Int=>a.1) (fun a:Nat × (List Rule) × Int=>[(6,.ar 5100),(8,.t (.sc (.int .i64 a.2.2)))]) (fun a:Nat × (List Rule) × Int=>[(5100,.arr (a.2.1.map Rule.row) 37 true)]) (fun a:Nat × (List Rule) × Int=>a.1≤fu∧zbn a.1 x1 g21 a.2.1 a.2.2=some r∧0≤a.2.2) (fu,([]:List Rule),2) ⟨Nat.le_refl _,F3,by simp⟩ (by rfl) (by rfl) (fun _=>rfl) (zQ (by conv=>lhs;whnf) (by rfl) (zQ (by conv=>lhs;whnf) (by rfl) zbA)) (zV (by conv=>lhs;whnf) (by rfl) zbl) (zcq hC rfl) (by repeat (first | exact zai rfl | refine zax rfl ?_ | refine z8 rfl ?_)) (by repeat (first | exact zaU | exact zan rfl | refine zay rfl ?_ | refine z9 rfl ?_)) ?_
 clear F3
 rintro ⟨fu,g23,g24⟩ ⟨hl25,F4,hn_g24⟩
 dsimp only at hl25 F4 hn_g24 ⊢
 obtain _ | fu:=fu
 · rw [zbn] at F4;cases F4
 rw [zbn] at F4
 refine zb (zb (za ?_))
 refine s_mv ?_
 refine s_fa zD ?_
 refine zu yA24 ?_
 refine zF yU24 ?_
 refine s_lt ?_
 refine zf (zd ?_)
 refine zn F4 ?_ ?_<;>intro C26 F5
 refine zN 67 (fun B27=>?_)
 refine zi (zd (zb (zl (zb ?_))))
 refine zca (α:=Nat × Bool) [72,73,74,75,76,77,78,79,80,81,82,83,84,85,86,87,88] [] [] (fun a=>[(88,.t (.sc (.bool a.2)))]) (fun a=>[]) (fun a=>a.1≤fu∧zbp a.1 x1 g21 g23 g24 a.2=some r) ?_ ?_
 refine za ?_
 refine s_fa zD ?_
 refine zu yA24 ?_
 refine s_mv ?_
 obtain ⟨v28,V28,F6⟩:=zc F5
 refine zR Form.row V28 (Form.row_eq _) yE24 ?_
 refine s_fa zcN ?_
 refine zu yA3 ?_
 refine s_ne ?_
 refine s_mv ?_
 refine zo _ 79 F6 ?_ ?_<;>intro C29 F7
 iterate 8 refine r_no rfl ?_
 refine zz ?_
 refine zf ?_
 exact s_jn (fu,true) ⟨by first | omega | (dsimp only;omega),F7⟩
 refine s_fa zD ?_
 refine zu yA24 ?_
 refine s_mv ?_
 obtain ⟨v30,V30,F8⟩:=zc F7
 refine zR Form.row V30 (Form.row_eq _) yE24 ?_
 refine s_fa zD ?_
 refine zu yA24 ?_
 refine zF yU24 ?_
 refine s_ne ?_
 refine zy ?_
 refine zf ?_
 exact s_jn (fu,(decide ((v30.kids.length:Int)≠2))) ⟨by first | omega | (dsimp only;omega),F8⟩
 clear F5
 rintro ⟨fu,g31⟩ ⟨hl32,F6⟩
 dsimp only at hl32 F6 ⊢
 obtain _ | fu:=fu
 · rw [zbp] at F6;cases F6
 rw [zbp] at F6
 refine zn F6 ?_ ?_<;>intro C33 F7
 refine zb (za ?_)
 refine s_bs Form.row ([]:List Form) yP24 yR32 ?_
 refine s_bs Rule.row ([]:List Rule) yP23 yR37 ?_
 iterate 3 refine s_as ?_
 refine zf (zd ?_)
 refine zdf 3 90 9300 (by conv=>lhs;whnf) (by conv=>lhs;whnf) rfl ?_
 refine awp_frz 9300 (by conv=>lhs;whnf) ?_
 refine zh (zg (zj (zg (zw (zj (zgp (zm ?_)))))))
 cases F7
 exact zk _ [89] Tryz.results62
 refine zi (zd ?_)
 refine zZ yMix (by kernel_rfl) ?_
 refine s_mv ?_
 refine s_fa zD ?_
 refine zu yA24 ?_
 refine s_mv ?_
 obtain ⟨v34,V34,F8⟩:=zc F7
 refine zR Form.row V34 (Form.row_eq _) yE24 ?_
 refine s_fa zD ?_
 refine zu yA24 ?_
 obtain ⟨v35,V35,F9⟩:=zc F8
 refine zR Form.row V35 (Form.row_eq _) yE24 ?_
 refine zak yA32 yS32 ?_
 obtain ⟨v36,V36,F10⟩:=zc F9
 refine zL [(9203,2100),(9204,12100)] [] _ _ (zem fu _ _ V36) ?_
 refine s_fa zD ?_
 refine zu yA24 ?_
 refine s_mv ?_
 obtain ⟨v37,V37,F11⟩:=zc F10
 refine zR Form.row V37 (Form.row_eq _) yE24 ?_
 refine s_fa zD ?_
 refine zu yA24 ?_
 obtain ⟨v38,V38,F12⟩:=zc F11
 refine zR Form.row V38 (Form.row_eq _) yE24 ?_
 refine zak yA32 yS32 ?_
 obtain ⟨v39,V39,F13⟩:=zc F12
 refine zL [(9203,2109),(9204,12109)] [] _ _ (zem fu _ _ V39) ?_
 refine zgQ yZ37 yL37 ?_
 refine s_bs Rule.row [(Rule.mk v36 v39)] yP23 yR37 ?_
 obtain ⟨hk40,F14⟩:=zat F13
 refine zfw Rule.row (fun y=>Rule.row_len y) hk40 yP23 ?_
 refine s_as ?_
 refine zam (by kernel_rfl) ?_
 refine zU (zd (za ?_))
 refine s_mv ?_
 refine zH (zaq C26 B27 hn_g24) ?_
 refine s_as ?_
 refine zf ?_
 exact s_rn (fu,(g23++[(Rule.mk v36 v39)]),(g24+1)) ⟨by first | omega | (dsimp only;omega),F14,by first | omega | (dsimp only;omega)⟩ [(5100,112)]
 refine zA (zq (zp (zr ?_)))
 exact s_jn (fu,g23) ⟨by first | omega | (dsimp only;omega),F5⟩
 clear F3
 rintro ⟨fu,g41⟩ ⟨hl42,F4⟩
 dsimp only at hl42 F4 ⊢
 obtain _ | fu:=fu
 · rw [zcX] at F4;cases F4
 rw [zcX] at F4
 refine zb (zb (za ?_))
 refine s_mv ?_
 refine s_mv ?_
 obtain ⟨v43,V43,F5⟩:=zc F4
 refine zx [5100,5060] (zhE fu _ _ _ V43) ?_
 refine za3 ?_
 refine zf (zd ?_)
 refine zn F5 ?_ ?_<;>intro C44 F6
 refine zb (za ?_)
 refine s_bs Form.row ([]:List Form) yP24 yR32 ?_
 refine s_bs Rule.row ([]:List Rule) yP23 yR37 ?_
 iterate 3 refine s_as ?_
 refine zf (zd ?_)
 refine zdf 3 118 9300 (by conv=>lhs;whnf) (by conv=>lhs;whnf) rfl ?_
 refine awp_frz 9300 (by conv=>lhs;whnf) ?_
 refine zh (zg (zm ?_))
 cases F6
 exact zk _ [117] Tryz.results62
 refine zi (zd (zb (za ?_)))
 refine s_mv ?_
 refine s_mv ?_
 iterate 3 refine s_as ?_
 refine zf (zd ?_)
 refine zdf 3 5100 9300 (by conv=>lhs;whnf) (by conv=>lhs;whnf) rfl ?_
 refine zh (zm ?_)
 cases F6
 exact zk _ [5060] Tryz.results62
def zfn (fuel:Nat):Prop:=∀ (o1:zbY) (x2:Form) (r:(Form × zbY)),zbU fuel o1 x2=some r→AC Tryz.prog 63 [.rf 9000 0,.ag [.t (.sc (.int .i64 x2.kind)),.t (.sc (.str x2.name)),.t (.sc (.int .i64 x2.n)),.t (.sl (x2.scopes.map rI)),.t (.sl (x2.kids.map Form.row))]] (objs [(9000,.box [.t (.sl (o1.b.map rB)),.t (.sc (.int .i64 o1.p))])]) (.ag [.t (.sc (.int .i64 r.1.kind)),.t (.sc (.str r.1.name)),.t (.sc (.int .i64 r.1.n)),.t (.sl (r.1.scopes.map rI)),.t (.sl (r.1.kids.map Form.row))]) (objs [(9000,.box [.t (.sl (r.2.b.map rB)),.t (.sc (.int .i64 r.2.p))])])
theorem m_spec_l1Dress_st (fu:Nat) (ih_m_spec_l1Dress:∀ k,k≤fu→zfn k):zfn (fu+1):=by
 intro o1 x2 r F0
 rw [zbU] at F0
 refine AC_i [.ag [.t (.sc (.int .i64 r.1.kind)),.t (.sc (.str r.1.name)),.t (.sc (.int .i64 r.1.n)),.t (.sl (r.1.scopes.map rI)),.t (.sl (r.1.kids.map Form.row))]] Tryz.func63 rfl Tryz.ntmps63 ?_
 intro C hC
 refine zb (za ?_)
 refine za7 ?_
 refine z4 yZ32 ?_
 refine zf (zd (zb (za ?_)))
 refine zI yA32 yS32 ?_
 obtain ⟨v1,V1,F1⟩:=zc F0
 refine zL [(9203,2009),(9204,12009)] [] _ _ (zem fu _ _ V1) ?_
 refine z4 yZ32 ?_
 refine zal yS32 ?_
 refine zf (zd (zb (zb (za ?_))))
 refine s_fa zcN ?_
 refine zu yA3 ?_
 refine s_eq ?_
 refine zf (zd ?_)
 refine zn F1 ?_ ?_<;>intro C2 F2
 refine zb (za ?_)
 refine s_bs rI ([]:List Int) yP27 yR3 ?_
 refine s_bs rI [1] yP27 yR3 ?_
 refine s_bs rI [2] yP27 yR3 ?_
 refine s_bs rI [1,2] yP27 yR3 ?_
 refine s_bs rI [1,3] yP27 yR3 ?_
 refine s_bs rI [1,2,3] yP27 yR3 ?_
 refine s_bs rI [99] yP27 yR3 ?_
 refine s_bs (rL rI) [([]:List Int),[1],[2],[1,2],[1,3],[1,2,3],[99]] yP135 yR27 ?_
 refine s_as ?_
 refine zf (zd (za ?_))
 refine s_bs rI ([]:List Int) yP27 yR3 ?_
 iterate 3 refine s_mv ?_
 refine zgv yU135 ?_
 obtain ⟨v3,V3,F3⟩:=zc F2
 refine zL [(9000,9000)] [] _ _ (zah fu _ _ _ V3) ?_
 obtain ⟨v4,V4,F4⟩:=zc F3
 refine zhC (rL rI) V4 yE135 ?_
 refine s_lA1 (rL rI) V4 rfl yA27 ?_
 obtain ⟨hk5,F5⟩:=zat F4
 refine zfw rI (fun _=>rfl) hk5 yP27 ?_
 refine s_fa zgu ?_
 refine s_stP yS27 ?_
 refine zf (zd (zb (zb (za ?_))))
 refine s_as ?_
 refine zf (zd (zl ?_))
 refine zaX (β:=Int × (List Int) × Int × (List Form)) [7,31,32,33,34,35,36,37,38,39,40,41,42,43,44,45,46,47,48] [9000,12009] [] (fun a=>[(7,.t (.sc (.int .i64 a.2.1)))]) (fun a=>[(9000,.box [.t (.sl (a.2.2.1.map rB)),.t (.sc (.int .i64 a.2.2.2.1))]),(12009,.arr (a.2.2.2.2.map Form.row) 32 true)]) (fun a=>a.1≤fu∧zct a.1 v1 v4 a.2.1 a.2.2.1 a.2.2.2.1 a.2.2.2.2=some r∧0≤a.2.1) (fu,0,v3.2.b,v3.2.p,v1.kids) ⟨Nat.le_refl _,F5,by simp⟩ ?_
 clear F5
 rintro ⟨fu,g6,g7,g8,g9⟩ ⟨hl10,F6,hn_g6⟩
 dsimp only at hl10 F6 hn_g6 ⊢
 obtain _ | fu:=fu
 · rw [zct] at F6;cases F6
 rw [zct] at F6
 refine zb (zb (za ?_))
 refine s_mv ?_
 refine s_fa zD ?_
 refine zu yA24 ?_
 refine zgv yU24 ?_
 refine s_lt ?_
 refine zf (zd ?_)
 refine zn F6 ?_ ?_<;>intro C11 F7
 refine zic 33 12009 (fun B12=>?_)
 refine zi (zd (zb (zl ?_)))
 refine zZ yMix (by kernel_rfl) ?_
 refine s_fa zD ?_
 refine zu yA24 ?_
 refine s_mv ?_
 refine s_mv ?_
 refine s_fa zD ?_
 refine zu yA24 ?_
 refine s_mv ?_
 obtain ⟨v13,V13,F8⟩:=zc F7
 refine zhC Form.row V13 yE24 ?_
 refine s_lAN Form.row V13 (Form.row_eq _) yA32 yS32 ?_
 obtain ⟨v14,V14,F9⟩:=zc F8
 refine zL [(9000,9000)] [] _ _ (ih_m_spec_l1Dress fu (by omega) _ _ _ V14) ?_
 obtain ⟨v15,V15,F10⟩:=zc F9
 refine zhC Form.row V15 yE24 ?_
 refine s_stA Form.row v14.1 V15 (Form.row_eq _) (Form.row_eq _) yS32 yS32 ?_
 refine zam (by kernel_rfl) ?_
 refine zU (zd (za ?_))
 refine s_mv ?_
 refine zH (zaq C11 B12 hn_g6) ?_
 refine s_as ?_
 refine zf ?_
 exact s_rn (fu,(g6+1),v14.2.b,v14.2.p,(g9.set g6.toNat v14.1)) ⟨by first | omega | (dsimp only;omega),F10,by first | omega | (dsimp only;omega)⟩
 refine zA (zq (zp (zr (zd (zb (za ?_))))))
 refine zI yA32 yS32 ?_
 refine zal yS32 ?_
 refine zf (zd (zh (zm ?_)))
 cases F7
 exact zag _ [29,12009] (by rw [Tryz.results63];exact (zaE (by conv=>lhs;whnf) (by conv=>lhs;whnf) yA32 yS32 rfl zar))
 refine zi (zd (zb (zb (za ?_))))
 refine s_as ?_
 refine zf (zd (zl ?_))
 refine zaX (β:=Int × (List Int) × Int × (List Form)) [7,31,32,33,34,35,36,37,38,39,40,41,42,43,44,45,46,47,48] [9000,12009] [] (fun a=>[(7,.t (.sc (.int .i64 a.2.1)))]) (fun a=>[(9000,.box [.t (.sl (a.2.2.1.map rB)),.t (.sc (.int .i64 a.2.2.2.1))]),(12009,.arr (a.2.2.2.2.map Form.row) 32 true)]) (fun a=>a.1≤fu∧zcs a.1 v1 a.2.1 a.2.2.1 a.2.2.2.1 a.2.2.2.2=some r∧0≤a.2.1) (fu,0,o1.b,o1.p,v1.kids) ⟨Nat.le_refl _,F2,by simp⟩ ?_
 clear F2
 rintro ⟨fu,g16,g17,g18,g19⟩ ⟨hl20,F3,hn_g16⟩
 dsimp only at hl20 F3 hn_g16 ⊢
 obtain _ | fu:=fu
 · rw [zcs] at F3;cases F3
 rw [zcs] at F3
 refine zb (zb (za ?_))
 refine s_mv ?_
 refine s_fa zD ?_
 refine zu yA24 ?_
 refine zgv yU24 ?_
 refine s_lt ?_
 refine zf (zd ?_)
 refine zn F3 ?_ ?_<;>intro C21 F4
 refine zic 33 12009 (fun B22=>?_)
 refine zi (zd (zb (zl ?_)))
 refine zZ yMix (by kernel_rfl) ?_
 refine s_fa zD ?_
 refine zu yA24 ?_
 refine s_mv ?_
 refine s_mv ?_
 refine s_fa zD ?_
 refine zu yA24 ?_
 refine s_mv ?_
 obtain ⟨v23,V23,F5⟩:=zc F4
 refine zhC Form.row V23 yE24 ?_
 refine s_lAN Form.row V23 (Form.row_eq _) yA32 yS32 ?_
 obtain ⟨v24,V24,F6⟩:=zc F5
 refine zL [(9000,9000)] [] _ _ (ih_m_spec_l1Dress fu (by omega) _ _ _ V24) ?_
 obtain ⟨v25,V25,F7⟩:=zc F6
 refine zhC Form.row V25 yE24 ?_
 refine s_stA Form.row v24.1 V25 (Form.row_eq _) (Form.row_eq _) yS32 yS32 ?_
 refine zam (by kernel_rfl) ?_
 refine zU (zd (za ?_))
 refine s_mv ?_
 refine zH (zaq C21 B22 hn_g16) ?_
 refine s_as ?_
 refine zf ?_
 exact s_rn (fu,(g16+1),v24.2.b,v24.2.p,(g19.set g16.toNat v24.1)) ⟨by first | omega | (dsimp only;omega),F7,by first | omega | (dsimp only;omega)⟩
 refine zA (zq (zp (zr (zd (zb (za ?_))))))
 refine zI yA32 yS32 ?_
 refine zal yS32 ?_
 refine zf (zd (zh (zm ?_)))
 cases F4
 exact zag _ [2009,12009] (by rw [Tryz.results63];exact (zaE (by conv=>lhs;whnf) (by conv=>lhs;whnf) yA32 yS32 rfl zar))
end Go.Abs
