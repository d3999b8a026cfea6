/- A part of the proof: what the functions that the law calls answer, as pure values. -/
import Derived.Test.YtpdacpnncmemgaaGreatKdfdf7487b8fc
import Derived.Test.YtpdacpnncmemgaaGreatKa3188cc5fca6
import Derived.Test.YtpdacpnncmemgaaGreatKa647db9ee9e6
import Derived.Test.YtpdacpnncmemgaaGreatKfaf2dbb53499
set_option linter.unusedSimpArgs false
set_option linter.unusedVariables false
set_option maxRecDepth 100000
set_option maxHeartbeats 4000000
namespace Go.Abs
open Go.Proofs
theorem m_spec_l4Shape_all (fuel:Nat):zfk fuel:=by
 induction fuel using Nat.strongRecOn with
 | _ N ih =>
   cases N with
   | zero=>exact (by intro x1 r h;rw [zdI] at h;cases h)
   | succ fu=>exact m_spec_l4Shape_st fu (fun k hk=>(ih k (by omega)))
theorem m_spec_l4Shape_ok (fuel:Nat):zfk fuel:=(m_spec_l4Shape_all fuel)
def m_spec_l4Var_AC (fuel:Nat):Prop:=∀ (x1:Form) (x2:(List Form)) (r:Bool),zf6 fuel x1 x2=some r→AC Tryz.prog 152 [.ag [.t (.sc (.int .i64 x1.kind)),.t (.sc (.str x1.name)),.t (.sc (.int .i64 x1.n)),.t (.sl (x1.scopes.map rI)),.t (.sl (x1.kids.map Form.row))],.t (.sl (x2.map Form.row))] noOb (.t (.sc (.bool r))) noOb
theorem m_spec_l4Var_ok (fuel:Nat):m_spec_l4Var_AC fuel:=by
 intro x1 x2 r F0
 unfold zf6 at F0
 refine AC_i [.t (.sc (.bool r))] Tryz.func152 rfl Tryz.ntmps152 ?_
 intro C hC
 refine zb (za ?_)
 refine za7 ?_
 refine s_as ?_
 refine zf (zd (zb (za ?_)))
 refine s_fa zcN ?_
 refine zu yA3 ?_
 refine s_eq ?_
 refine s_mv ?_
 refine zo _ 8 F0 ?_ ?_<;>intro C1 F1
 refine s_fa zcB ?_
 refine zu yA9 ?_
 refine s_neS ?_
 refine zz ?_
 refine s_mv ?_
 refine zo _ 13 F1 ?_ ?_<;>intro C2 F2
 refine s_fa zcB ?_
 refine zu yA9 ?_
 refine s_neS ?_
 refine zz ?_
 refine s_mv ?_
 refine zo _ 18 F2 ?_ ?_<;>intro C3 F3
 refine s_mv ?_
 refine zI yA32 yS32 ?_
 obtain ⟨v4,V4,F4⟩:=zc F3
 refine zx [] (zgF fuel _ _ _ V4) ?_
 refine za3 ?_
 refine zz ?_
 refine s_as ?_
 refine zf (zd (zh (zm ?_)))
 cases F4
 exact zk [] [] Tryz.results152
 iterate 4 refine r_no rfl ?_
 refine zy ?_
 refine s_as ?_
 refine zf (zd (zh (zm ?_)))
 cases F3
 exact zk [] [] Tryz.results152
 iterate 3 refine r_no rfl ?_
 refine zy ?_
 refine s_mv ?_
 iterate 4 refine r_no rfl ?_
 refine zy ?_
 refine s_as ?_
 refine zf (zd (zh (zm ?_)))
 cases F2
 exact zk [] [] Tryz.results152
 iterate 3 refine r_no rfl ?_
 refine zy ?_
 refine s_mv ?_
 iterate 3 refine r_no rfl ?_
 refine zy ?_
 refine s_mv ?_
 iterate 4 refine r_no rfl ?_
 refine zy ?_
 refine s_as ?_
 refine zf (zd (zh (zm ?_)))
 cases F1
 exact zk [] [] Tryz.results152
def zfQ (fuel:Nat):Prop:=∀ (x1:(List Form)) (x2:Form) (x3:(List Form)) (r:(List Form)),zdA fuel x1 x2 x3=some r→AC Tryz.prog 118 [.ar 9300,.ag [.t (.sc (.int .i64 x2.kind)),.t (.sc (.str x2.name)),.t (.sc (.int .i64 x2.n)),.t (.sl (x2.scopes.map rI)),.t (.sl (x2.kids.map Form.row))],.t (.sl (x3.map Form.row))] (objs [(9300,.arr (x1.map Form.row) 32 true)]) (.ar 9200) (objs [(9300,.dead),(9200,.arr (r.map Form.row) 32 true)])
theorem m_spec_l4Vars_st (fu:Nat) (ih_m_spec_l4Vars:∀ k,k≤fu→zfQ k):zfQ (fu+1):=by
 intro x1 x2 x3 r F0
 rw [zdA] at F0
 refine AC_i [.ar 9200] Tryz.func118 rfl Tryz.ntmps118 ?_
 intro C hC
 refine zb (za ?_)
 refine za7 ?_
 refine s_as ?_
 refine zf (zd (zb (zb (za ?_))))
 refine zI yA32 yS32 ?_
 refine s_mv ?_
 obtain ⟨v1,V1,F1⟩:=zc F0
 refine zx [] (m_spec_l4Var_ok fu _ _ _ V1) ?_
 refine zf (zd ?_)
 refine zn F1 ?_ ?_<;>intro C2 F2
 refine za ?_
 refine s_mv ?_
 refine zI yA32 yS32 ?_
 refine s_bs Form.row [x2] yP24 yR32 ?_
 obtain ⟨hk3,F3⟩:=zat F2
 refine zfw Form.row (fun y=>Form.row_len y) hk3 yP24 ?_
 refine s_as ?_
 refine zf (zd (zb (zb (za ?_))))
 refine s_as ?_
 refine zf (zd (zl ?_))
 refine zdf 0 14 5020 (by conv=>lhs;whnf) (by conv=>lhs;whnf) rfl ?_
 refine zaz [0,7,15,16,17,18,19,20,21,22,23,24,25,26,27,28,29] [5020] [12029] [5020] (fun a:Nat × (List Form) × Int=>a.1) (fun a:Nat × (List Form) × Int=>[(0,.ar 5020),(7,.t (.sc (.int .i64 a.2.2)))]) (fun a:Nat × (List Form) × Int=>[(5020,.arr (a.2.1.map Form.row) 32 true)]) (fun a:Nat × (List Form) × Int=>a.1≤fu∧zaG a.1 x2 x3 a.2.1 a.2.2=some r∧0≤a.2.2) (fu,(x1++[x2]),0) ⟨Nat.le_refl _,F3,by simp⟩ (by rfl) (by rfl) (fun _=>rfl) (zQ (by conv=>lhs;whnf) (by rfl) (zQ (by conv=>lhs;whnf) (by rfl) zbA)) (zV (by conv=>lhs;whnf) (by rfl) zbl) (zcq hC rfl) (by repeat (first | exact zai rfl | refine zax rfl ?_ | refine z8 rfl ?_)) (by repeat (first | exact zaU | exact zan rfl | refine zay rfl ?_ | refine z9 rfl ?_)) ?_
 clear F3
 rintro ⟨fu,g4,g5⟩ ⟨hl6,F4,hn_g5⟩
 dsimp only at hl6 F4 hn_g5 ⊢
 obtain _ | fu:=fu
 · rw [zaG] at F4;cases F4
 rw [zaG] at F4
 refine zb (zb (za ?_))
 refine s_mv ?_
 refine s_fa zD ?_
 refine zu yA24 ?_
 refine zF yU24 ?_
 refine s_lt ?_
 refine zf (zd ?_)
 refine zn F4 ?_ ?_<;>intro C7 F5
 refine zN 17 (fun B8=>?_)
 refine zi (zd (zb (zl (za ?_))))
 refine s_mv ?_
 refine s_fa zD ?_
 refine zu yA24 ?_
 refine s_mv ?_
 obtain ⟨v9,V9,F6⟩:=zc F5
 refine zR Form.row V9 (Form.row_eq _) yE24 ?_
 refine zak yA32 yS32 ?_
 refine s_mv ?_
 obtain ⟨v10,V10,F7⟩:=zc F6
 refine zL [(9300,5020),(9200,12029)] [] _ _ (ih_m_spec_l4Vars fu (by omega) _ _ _ _ V10) ?_
 refine s_as ?_
 refine zf (zU (zd (za ?_)))
 refine s_mv ?_
 refine zH (zaq C7 B8 hn_g5) ?_
 refine s_as ?_
 refine zf ?_
 exact s_rn (fu,v10,(g5+1)) ⟨by first | omega | (dsimp only;omega),F7,by first | omega | (dsimp only;omega)⟩ [(5020,12029)]
 refine zA (zq (zp (zr (zd (zb (za ?_))))))
 refine s_mv ?_
 refine s_as ?_
 refine zf (zd ?_)
 refine zdf 6 5020 9200 (by conv=>lhs;whnf) (by conv=>lhs;whnf) rfl ?_
 refine zh (zm ?_)
 cases F5
 exact zk _ [] Tryz.results118
 refine zi (zd (zb (zb (za ?_))))
 refine s_as ?_
 refine zf (zd (zl ?_))
 refine zdf 0 9300 5040 (by conv=>lhs;whnf) (by conv=>lhs;whnf) rfl ?_
 refine zaz [0,7,15,16,17,18,19,20,21,22,23,24,25,26,27,28,29] [5040] [12029] [5040] (fun a:Nat × (List Form) × Int=>a.1) (fun a:Nat × (List Form) × Int=>[(0,.ar 5040),(7,.t (.sc (.int .i64 a.2.2)))]) (fun a:Nat × (List Form) × Int=>[(5040,.arr (a.2.1.map Form.row) 32 true)]) (fun a:Nat × (List Form) × Int=>a.1≤fu∧zaG a.1 x2 x3 a.2.1 a.2.2=some r∧0≤a.2.2) (fu,x1,0) ⟨Nat.le_refl _,F2,by simp⟩ (by rfl) (by rfl) (fun _=>rfl) (zQ (by conv=>lhs;whnf) (by rfl) (zQ (by conv=>lhs;whnf) (by rfl) zbA)) (zV (by conv=>lhs;whnf) (by rfl) zbl) (zcq hC rfl) (by repeat (first | exact zai rfl | refine zax rfl ?_ | refine z8 rfl ?_)) (by repeat (first | exact zaU | exact zan rfl | refine zay rfl ?_ | refine z9 rfl ?_)) ?_
 clear F2
 rintro ⟨fu,g11,g12⟩ ⟨hl13,F3,hn_g12⟩
 dsimp only at hl13 F3 hn_g12 ⊢
 obtain _ | fu:=fu
 · rw [zaG] at F3;cases F3
 rw [zaG] at F3
 refine zb (zb (za ?_))
 refine s_mv ?_
 refine s_fa zD ?_
 refine zu yA24 ?_
 refine zF yU24 ?_
 refine s_lt ?_
 refine zf (zd ?_)
 refine zn F3 ?_ ?_<;>intro C14 F4
 refine zN 17 (fun B15=>?_)
 refine zi (zd (zb (zl (za ?_))))
 refine s_mv ?_
 refine s_fa zD ?_
 refine zu yA24 ?_
 refine s_mv ?_
 obtain ⟨v16,V16,F5⟩:=zc F4
 refine zR Form.row V16 (Form.row_eq _) yE24 ?_
 refine zak yA32 yS32 ?_
 refine s_mv ?_
 obtain ⟨v17,V17,F6⟩:=zc F5
 refine zL [(9300,5040),(9200,12029)] [] _ _ (ih_m_spec_l4Vars fu (by omega) _ _ _ _ V17) ?_
 refine s_as ?_
 refine zf (zU (zd (za ?_)))
 refine s_mv ?_
 refine zH (zaq C14 B15 hn_g12) ?_
 refine s_as ?_
 refine zf ?_
 exact s_rn (fu,v17,(g12+1)) ⟨by first | omega | (dsimp only;omega),F6,by first | omega | (dsimp only;omega)⟩ [(5040,12029)]
 refine zA (zq (zp (zr (zd (zb (za ?_))))))
 refine s_mv ?_
 refine s_as ?_
 refine zf (zd ?_)
 refine zdf 6 5040 9200 (by conv=>lhs;whnf) (by conv=>lhs;whnf) rfl ?_
 refine zh (zm ?_)
 cases F4
 exact zk _ [] Tryz.results118
theorem m_spec_l4Vars_all (fuel:Nat):zfQ fuel:=by
 induction fuel using Nat.strongRecOn with
 | _ N ih =>
   cases N with
   | zero=>exact (by intro x1 x2 x3 r h;rw [zdA] at h;cases h)
   | succ fu=>exact m_spec_l4Vars_st fu (fun k hk=>(ih k (by omega)))
theorem m_spec_l4Vars_ok (fuel:Nat):zfQ fuel:=(m_spec_l4Vars_all fuel)
def zeR (fuel:Nat):Prop:=∀ (x1:(List Int)) (x2:Form) (x3:(List Form)) (x4:Int) (r:(List Int)),zbD fuel x1 x2 x3 x4=some r→AC Tryz.prog 119 [.ar 9300,.ag [.t (.sc (.int .i64 x2.kind)),.t (.sc (.str x2.name)),.t (.sc (.int .i64 x2.n)),.t (.sl (x2.scopes.map rI)),.t (.sl (x2.kids.map Form.row))],.t (.sl (x3.map Form.row)),.t (.sc (.int .i64 x4))] (objs [(9300,.arr (x1.map rI) 3 true)]) (.ar 9200) (objs [(9300,.dead),(9200,.arr (r.map rI) 3 true)])
theorem m_spec_l4Depths_st (fu:Nat) (ih_m_spec_l4Depths:∀ k,k≤fu→zeR k):zeR (fu+1):=by
 intro x1 x2 x3 x4 r F0
 rw [zbD] at F0
 refine AC_i [.ar 9200] Tryz.func119 rfl Tryz.ntmps119 ?_
 intro C hC
 refine zb (za ?_)
 refine za7 ?_
 refine s_as ?_
 refine zf (zd (zb (zb (za ?_))))
 refine zI yA32 yS32 ?_
 refine s_mv ?_
 obtain ⟨v1,V1,F1⟩:=zc F0
 refine zx [] (m_spec_l4Var_ok fu _ _ _ V1) ?_
 refine zf (zd ?_)
 refine zn F1 ?_ ?_<;>intro C2 F2
 refine za ?_
 refine s_mv ?_
 refine s_mv ?_
 refine s_bs rI [x4] yP27 yR3 ?_
 obtain ⟨hk3,F3⟩:=zat F2
 refine zfw rI (fun _=>rfl) hk3 yP27 ?_
 refine s_as ?_
 refine zf (zd (zb (zb (za ?_))))
 refine s_as ?_
 refine zf (zd (zl ?_))
 refine zdf 0 17 5020 (by conv=>lhs;whnf) (by conv=>lhs;whnf) rfl ?_
 refine zaz [0,9,10,18,19,20,21,22,23,24,25,26,27,28,29,30,31,32,33,34,35,36,37,38,39,40,41,42,43,44,45,46,47,48,49,50,51] [5020] [12051] [5020] (fun a:Nat × (List Int) × Int=>a.1) (fun a:Nat × (List Int) × Int=>[(0,.ar 5020),(9,.t (.sc (.int .i64 a.2.2)))]) (fun a:Nat × (List Int) × Int=>[(5020,.arr (a.2.1.map rI) 3 true)]) (fun a:Nat × (List Int) × Int=>a.1≤fu∧zab a.1 x2 x3 x4 a.2.1 a.2.2=some r∧0≤a.2.2) (fu,(x1++[x4]),0) ⟨Nat.le_refl _,F3,by simp⟩ (by rfl) (by rfl) (fun _=>rfl) (zQ (by conv=>lhs;whnf) (by rfl) (zQ (by conv=>lhs;whnf) (by rfl) zbA)) (zV (by conv=>lhs;whnf) (by rfl) zbl) (zcq hC rfl) (by repeat (first | exact zai rfl | refine zax rfl ?_ | refine z8 rfl ?_)) (by repeat (first | exact zaU | exact zan rfl | refine zay rfl ?_ | refine z9 rfl ?_)) ?_
 clear F3
 rintro ⟨fu,g4,g5⟩ ⟨hl6,F4,hn_g5⟩
 dsimp only at hl6 F4 hn_g5 ⊢
 obtain _ | fu:=fu
 · rw [zab] at F4;cases F4
 rw [zab] at F4
 refine zb (zb (za ?_))
 refine s_mv ?_
 refine s_fa zD ?_
 refine zu yA24 ?_
 refine zF yU24 ?_
 refine s_lt ?_
 refine zf (zd ?_)
 refine zn F4 ?_ ?_<;>intro C7 F5
 refine zN 20 (fun B8=>?_)
 refine zi (zd (zb (zl (zb (za ?_)))))
 refine s_mv ?_
 refine s_as ?_
 refine zf (zd (zb (zb (za ?_))))
 refine s_mv ?_
 refine zH (zaq C7 B8 hn_g5) ?_
 refine s_fa zD ?_
 refine zu yA24 ?_
 refine zF yU24 ?_
 refine s_lt ?_
 refine s_mv ?_
 refine zo _ 32 F5 ?_ ?_<;>intro C9 F6
 refine s_fa zD ?_
 refine zu yA24 ?_
 refine s_mv ?_
 refine zH (zaq C7 B8 hn_g5) ?_
 obtain ⟨v10,V10,F7⟩:=zc F6
 refine zR Form.row V10 (Form.row_eq _) yE24 ?_
 refine zak yA32 yS32 ?_
 obtain ⟨v11,V11,F8⟩:=zc F7
 refine zx [] (za0 fu _ _ V11) ?_
 refine zz ?_
 refine zf (zd ?_)
 refine zn F8 ?_ ?_<;>intro C12 F9
 refine za ?_
 refine s_mv ?_
 refine zH rfl ?_
 refine s_as ?_
 refine zf (zd (za ?_))
 refine s_mv ?_
 refine s_fa zD ?_
 refine zu yA24 ?_
 refine s_mv ?_
 obtain ⟨v13,V13,F10⟩:=zc F9
 refine zR Form.row V13 (Form.row_eq _) yE24 ?_
 refine zak yA32 yS32 ?_
 refine s_mv ?_
 refine s_mv ?_
 obtain ⟨v14,V14,F11⟩:=zc F10
 refine zL [(9300,5020),(9200,12051)] [] _ _ (ih_m_spec_l4Depths fu (by omega) _ _ _ _ _ V14) ?_
 refine s_as ?_
 refine zf (zU (zd (za ?_)))
 refine s_mv ?_
 refine zH (zaq C7 B8 hn_g5) ?_
 refine s_as ?_
 refine zf ?_
 exact s_rn (fu,v14,(g5+1)) ⟨by first | omega | (dsimp only;omega),F11,by first | omega | (dsimp only;omega)⟩ [(5020,12051)]
 refine zi (zd (za ?_))
 refine s_mv ?_
 refine s_fa zD ?_
 refine zu yA24 ?_
 refine s_mv ?_
 obtain ⟨v15,V15,F10⟩:=zc F9
 refine zR Form.row V15 (Form.row_eq _) yE24 ?_
 refine zak yA32 yS32 ?_
 refine s_mv ?_
 refine s_mv ?_
 obtain ⟨v16,V16,F11⟩:=zc F10
 refine zL [(9300,5020),(9200,12051)] [] _ _ (ih_m_spec_l4Depths fu (by omega) _ _ _ _ _ V16) ?_
 refine s_as ?_
 refine zf (zU (zd (za ?_)))
 refine s_mv ?_
 refine zH (zaq C7 B8 hn_g5) ?_
 refine s_as ?_
 refine zf ?_
 exact s_rn (fu,v16,(g5+1)) ⟨by first | omega | (dsimp only;omega),F11,by first | omega | (dsimp only;omega)⟩ [(5020,12051)]
 iterate 7 refine r_no rfl ?_
 refine zy ?_
 refine zf (zd (zaP rfl (zi (zd (za ?_)))))
 refine s_mv ?_
 refine s_fa zD ?_
 refine zu yA24 ?_
 refine s_mv ?_
 obtain ⟨v17,V17,F7⟩:=zc F6
 refine zR Form.row V17 (Form.row_eq _) yE24 ?_
 refine zak yA32 yS32 ?_
 refine s_mv ?_
 refine s_mv ?_
 obtain ⟨v18,V18,F8⟩:=zc F7
 refine zL [(9300,5020),(9200,12051)] [] _ _ (ih_m_spec_l4Depths fu (by omega) _ _ _ _ _ V18) ?_
 refine s_as ?_
 refine zf (zU (zd (za ?_)))
 refine s_mv ?_
 refine zH (zaq C7 B8 hn_g5) ?_
 refine s_as ?_
 refine zf ?_
 exact s_rn (fu,v18,(g5+1)) ⟨by first | omega | (dsimp only;omega),F8,by first | omega | (dsimp only;omega)⟩ [(5020,12051)]
 refine zA (zq (zp (zr (zd (zb (za ?_))))))
 refine s_mv ?_
 refine s_as ?_
 refine zf (zd ?_)
 refine zdf 8 5020 9200 (by conv=>lhs;whnf) (by conv=>lhs;whnf) rfl ?_
 refine zh (zm ?_)
 cases F5
 exact zk _ [] Tryz.results119
 refine zi (zd (zb (zb (za ?_))))
 refine s_as ?_
 refine zf (zd (zl ?_))
 refine zdf 0 9300 5040 (by conv=>lhs;whnf) (by conv=>lhs;whnf) rfl ?_
 refine zaz [0,9,10,18,19,20,21,22,23,24,25,26,27,28,29,30,31,32,33,34,35,36,37,38,39,40,41,42,43,44,45,46,47,48,49,50,51] [5040] [12051] [5040] (fun a:Nat × (List Int) × Int=>a.1) (fun a:Nat × (List Int) × Int=>[(0,.ar 5040),(9,.t (.sc (.int .i64 a.2.2)))]) (fun a:Nat × (List Int) × Int=>[(5040,.arr (a.2.1.map rI) 3 true)]) (fun a:Nat × (List Int) × Int=>a.1≤fu∧zab a.1 x2 x3 x4 a.2.1 a.2.2=some r∧0≤a.2.2) (fu,x1,0) ⟨Nat.le_refl _,F2,by simp⟩ (by rfl) (by rfl) (fun _=>rfl) (zQ (by conv=>lhs;whnf) (by rfl) (zQ (by conv=>lhs;whnf) (by rfl) zbA)) (zV (by conv=>lhs;whnf) (by rfl) zbl) (zcq hC rfl) (by repeat (first | exact zai rfl | refine zax rfl ?_ | refine z8 rfl ?_)) (by repeat (first | exact zaU | exact zan rfl | refine zay rfl ?_ | refine z9 rfl ?_)) ?_
 clear F2
 rintro ⟨fu,g19,g20⟩ ⟨hl21,F3,hn_g20⟩
 dsimp only at hl21 F3 hn_g20 ⊢
 obtain _ | fu:=fu
 · rw [zab] at F3;cases F3
 rw [zab] at F3
 refine zb (zb (za ?_))
 refine s_mv ?_
 refine s_fa zD ?_
 refine zu yA24 ?_
 refine zF yU24 ?_
 refine s_lt ?_
 refine zf (zd ?_)
 refine zn F3 ?_ ?_<;>intro C22 F4
 refine zN 20 (fun B23=>?_)
 refine zi (zd (zb (zl (zb (za ?_)))))
 refine s_mv ?_
 refine s_as ?_
 refine zf (zd (zb (zb (za ?_))))
 refine s_mv ?_
 refine zH (zaq C22 B23 hn_g20) ?_
 refine s_fa zD ?_
 refine zu yA24 ?_
 refine zF yU24 ?_
 refine s_lt ?_
 refine s_mv ?_
 refine zo _ 32 F4 ?_ ?_<;>intro C24 F5
 refine s_fa zD ?_
 refine zu yA24 ?_
 refine s_mv ?_
 refine zH (zaq C22 B23 hn_g20) ?_
 obtain ⟨v25,V25,F6⟩:=zc F5
 refine zR Form.row V25 (Form.row_eq _) yE24 ?_
 refine zak yA32 yS32 ?_
 obtain ⟨v26,V26,F7⟩:=zc F6
 refine zx [] (za0 fu _ _ V26) ?_
 refine zz ?_
 refine zf (zd ?_)
 refine zn F7 ?_ ?_<;>intro C27 F8
 refine za ?_
 refine s_mv ?_
 refine zH rfl ?_
 refine s_as ?_
 refine zf (zd (za ?_))
 refine s_mv ?_
 refine s_fa zD ?_
 refine zu yA24 ?_
 refine s_mv ?_
 obtain ⟨v28,V28,F9⟩:=zc F8
 refine zR Form.row V28 (Form.row_eq _) yE24 ?_
 refine zak yA32 yS32 ?_
 refine s_mv ?_
 refine s_mv ?_
 obtain ⟨v29,V29,F10⟩:=zc F9
 refine zL [(9300,5040),(9200,12051)] [] _ _ (ih_m_spec_l4Depths fu (by omega) _ _ _ _ _ V29) ?_
 refine s_as ?_
 refine zf (zU (zd (za ?_)))
 refine s_mv ?_
 refine zH (zaq C22 B23 hn_g20) ?_
 refine s_as ?_
 refine zf ?_
 exact s_rn (fu,v29,(g20+1)) ⟨by first | omega | (dsimp only;omega),F10,by first | omega | (dsimp only;omega)⟩ [(5040,12051)]
 refine zi (zd (za ?_))
 refine s_mv ?_
 refine s_fa zD ?_
 refine zu yA24 ?_
 refine s_mv ?_
 obtain ⟨v30,V30,F9⟩:=zc F8
 refine zR Form.row V30 (Form.row_eq _) yE24 ?_
 refine zak yA32 yS32 ?_
 refine s_mv ?_
 refine s_mv ?_
 obtain ⟨v31,V31,F10⟩:=zc F9
 refine zL [(9300,5040),(9200,12051)] [] _ _ (ih_m_spec_l4Depths fu (by omega) _ _ _ _ _ V31) ?_
 refine s_as ?_
 refine zf (zU (zd (za ?_)))
 refine s_mv ?_
 refine zH (zaq C22 B23 hn_g20) ?_
 refine s_as ?_
 refine zf ?_
 exact s_rn (fu,v31,(g20+1)) ⟨by first | omega | (dsimp only;omega),F10,by first | omega | (dsimp only;omega)⟩ [(5040,12051)]
 iterate 7 refine r_no rfl ?_
 refine zy ?_
 refine zf (zd (zaP rfl (zi (zd (za ?_)))))
 refine s_mv ?_
 refine s_fa zD ?_
 refine zu yA24 ?_
 refine s_mv ?_
 obtain ⟨v32,V32,F6⟩:=zc F5
 refine zR Form.row V32 (Form.row_eq _) yE24 ?_
 refine zak yA32 yS32 ?_
 refine s_mv ?_
 refine s_mv ?_
 obtain ⟨v33,V33,F7⟩:=zc F6
 refine zL [(9300,5040),(9200,12051)] [] _ _ (ih_m_spec_l4Depths fu (by omega) _ _ _ _ _ V33) ?_
 refine s_as ?_
 refine zf (zU (zd (za ?_)))
 refine s_mv ?_
 refine zH (zaq C22 B23 hn_g20) ?_
 refine s_as ?_
 refine zf ?_
 exact s_rn (fu,v33,(g20+1)) ⟨by first | omega | (dsimp only;omega),F7,by first | omega | (dsimp only;omega)⟩ [(5040,12051)]
 refine zA (zq (zp (zr (zd (zb (za ?_))))))
 refine s_mv ?_
 refine s_as ?_
 refine zf (zd ?_)
 refine zdf 8 5040 9200 (by conv=>lhs;whnf) (by conv=>lhs;whnf) rfl ?_
 refine zh (zm ?_)
 cases F4
 exact zk _ [] Tryz.results119
theorem m_spec_l4Depths_all (fuel:Nat):zeR fuel:=by
 induction fuel using Nat.strongRecOn with
 | _ N ih =>
   cases N with
   | zero=>exact (by intro x1 x2 x3 x4 r h;rw [zbD] at h;cases h)
   | succ fu=>exact m_spec_l4Depths_st fu (fun k hk=>(ih k (by omega)))
theorem zhu (fuel:Nat):zeR fuel:=(m_spec_l4Depths_all fuel)
def m_spec_l4Is_AC (fuel:Nat):Prop:=∀ (x1:Form) (x2:(List Form)) (r:Bool),zhd fuel x1 x2=some r→AC Tryz.prog 52 [.ag [.t (.sc (.int .i64 x1.kind)),.t (.sc (.str x1.name)),.t (.sc (.int .i64 x1.n)),.t (.sl (x1.scopes.map rI)),.t (.sl (x1.kids.map Form.row))],.t (.sl (x2.map Form.row))] noOb (.t (.sc (.bool r))) noOb
theorem m_spec_l4Is_ok (fuel:Nat):m_spec_l4Is_AC fuel:=by
 intro x1 x2 r F0
 unfold zhd at F0
 refine AC_i [.t (.sc (.bool r))] Tryz.func52 rfl Tryz.ntmps52 ?_
 intro C hC
 refine zb (za ?_)
 refine za7 ?_
 refine s_as ?_
 refine zf (zd (zb (zb (za ?_))))
 refine zI yA32 yS32 ?_
 obtain ⟨v1,V1,F1⟩:=zc F0
 refine zx [] (zdm fuel _ _ V1) ?_
 refine za3 ?_
 refine s_mv ?_
 refine zo _ 12 F1 ?_ ?_<;>intro C2 F2
 iterate 3 refine r_no rfl ?_
 refine zz ?_
 refine s_mv ?_
 iterate 3 refine r_no rfl ?_
 refine zz ?_
 refine zf (zd (zK rfl (zb (za ?_))))
 refine s_as ?_
 refine zf (zd (zh (zg (zm ?_))))
 cases F2
 exact zk [] [] Tryz.results52
 refine s_mv ?_
 obtain ⟨v3,V3,F3⟩:=zc F2
 refine zx [] (zgW fuel _ _ V3) ?_
 refine za3 ?_
 refine zy ?_
 refine s_mv ?_
 refine zo _ 17 F3 ?_ ?_<;>intro C4 F4
 iterate 3 refine r_no rfl ?_
 refine zz ?_
 refine zf (zd (zK rfl (zb (za ?_))))
 refine s_as ?_
 refine zf (zd (zh (zg (zm ?_))))
 cases F4
 exact zk [] [] Tryz.results52
 refine zI yA32 yS32 ?_
 obtain ⟨v5,V5,F5⟩:=zc F4
 refine zx [] (m_spec_l4Shape_ok fuel _ _ V5) ?_
 refine za3 ?_
 refine zy ?_
 refine zf (zd ?_)
 refine zn F5 ?_ ?_<;>intro C6 F6
 refine zb (za ?_)
 refine s_as ?_
 refine zf (zd (zh (zg (zm ?_))))
 cases F6
 exact zk [] [] Tryz.results52
 refine zi (zd (zb (za ?_)))
 refine s_bs Form.row ([]:List Form) yP24 yR32 ?_
 refine zI yA32 yS32 ?_
 refine s_mv ?_
 obtain ⟨v7,V7,F7⟩:=zc F6
 refine zL [(9300,22),(9200,12025)] [] _ _ (m_spec_l4Vars_ok fuel _ _ _ _ V7) ?_
 refine s_as ?_
 refine zf (zd (zb (zb (za ?_))))
 refine s_as ?_
 refine zf (zd (zl ?_))
 refine awp_frz 12025 (by conv=>lhs;whnf) ?_
 refine zaX (β:=Int × (List Form)) [4,6,26,27,28,29,30,31,32,33,34,35,36,37,38,39] [12025] [] (fun a=>[(6,.t (.sc (.int .i64 a.2.1)))]) (fun a=>[(12025,.arr (a.2.2.map Form.row) 32 false)]) (fun a=>a.1≤fuel∧zc9 a.1 x1 x2 a.2.1 a.2.2=some r∧0≤a.2.1) (fuel,0,v7) ⟨Nat.le_refl _,F7,by simp⟩ ?_
 clear F7
 rintro ⟨fu,g8,g9⟩ ⟨hl10,F8,hn_g8⟩
 dsimp only at hl10 F8 hn_g8 ⊢
 obtain _ | fu:=fu
 · rw [zc9] at F8;cases F8
 rw [zc9] at F8
 refine zb (zb (za ?_))
 refine s_mv ?_
 refine s_mv ?_
 refine zgv yU24 ?_
 refine s_lt ?_
 refine zf (zd ?_)
 refine zn F8 ?_ ?_<;>intro C11 F9
 refine zic 5 12025 (fun B12=>?_)
 refine zi (zd (zb (zl (zb ?_))))
 refine zZ yMix (by kernel_rfl) ?_
 refine s_mv ?_
 refine s_mv ?_
 obtain ⟨v13,V13,F10⟩:=zc F9
 refine s_sl01 Form.row (fun y=>Form.row_len y) V13 yU24 yE24 ?_
 refine s_mv ?_
 refine s_mv ?_
 obtain ⟨v14,V14,F11⟩:=zc F10
 refine zhC Form.row V14 yE24 ?_
 refine s_lAN Form.row V14 (Form.row_eq _) yA32 yS32 ?_
 obtain ⟨v15,V15,F12⟩:=zc F11
 refine zx [] (zgF fu _ _ _ V15) ?_
 refine zam (by kernel_rfl) ?_
 refine zd ?_
 refine zn F12 ?_ ?_<;>intro C16 F13
 refine zb (za ?_)
 refine s_as ?_
 refine zf (zd (zh (zj (zg (zw (zj (zg (zm ?_))))))))
 cases F13
 exact zk [] [] Tryz.results52
 refine zi (zU (zd (za ?_)))
 refine s_mv ?_
 refine zH (zaq C11 B12 hn_g8) ?_
 refine s_as ?_
 refine zf ?_
 exact s_rn (fu,(g8+1),g9) ⟨by first | omega | (dsimp only;omega),F13,by first | omega | (dsimp only;omega)⟩
 refine zA (zq (zp (zr (zd (zb (za ?_))))))
 refine s_bs rI ([]:List Int) yP27 yR3 ?_
 refine zI yA32 yS32 ?_
 refine s_mv ?_
 obtain ⟨v17,V17,F10⟩:=zc F9
 refine zL [(9300,40),(9200,12043)] [] _ _ (zhu fu _ _ _ _ _ V17) ?_
 refine s_as ?_
 refine zf (zd (zb (zb (za ?_))))
 refine s_as ?_
 refine zf (zd (zl ?_))
 refine zaX (β:=Int) [4,8,44,45,46,47,48,49,50,51,52,53,54] [] [] (fun a=>[(8,.t (.sc (.int .i64 a.2)))]) (fun a=>[]) (fun a=>a.1≤fu∧zc8 a.1 g9 v17 a.2=some r∧0≤a.2) (fu,0) ⟨Nat.le_refl _,F10,by simp⟩ ?_
 clear F10
 rintro ⟨fu,g18⟩ ⟨hl19,F11,hn_g18⟩
 dsimp only at hl19 F11 hn_g18 ⊢
 obtain _ | fu:=fu
 · rw [zc8] at F11;cases F11
 rw [zc8] at F11
 refine zb (zb (za ?_))
 refine s_mv ?_
 refine s_mv ?_
 refine zgv yU27 ?_
 refine s_lt ?_
 refine zf (zd ?_)
 refine zn F11 ?_ ?_<;>intro C20 F12
 refine zic 7 12043 (fun B21=>?_)
 refine zi (zd (zb (zl (zb (za ?_)))))
 refine s_mv ?_
 refine s_mv ?_
 obtain ⟨v22,V22,F13⟩:=zc F12
 refine zhC rI V22 yE27 ?_
 refine s_lA1 rI V22 rfl yA3 ?_
 refine s_gt ?_
 refine zf (zd ?_)
 refine zn F13 ?_ ?_<;>intro C23 F14
 refine zb (za ?_)
 refine s_as ?_
 refine zf (zd (zh (zj (zg (zw (zj (zg (zm ?_))))))))
 cases F14
 exact zk [] [] Tryz.results52
 refine zi (zU (zd (za ?_)))
 refine s_mv ?_
 refine zH (zaq C20 B21 hn_g18) ?_
 refine s_as ?_
 refine zf ?_
 exact s_rn (fu,(g18+1)) ⟨by first | omega | (dsimp only;omega),F14,by first | omega | (dsimp only;omega)⟩
 refine zA (zq (zp (zr (zd (zb (za ?_))))))
 refine s_mv ?_
 refine zgv yU24 ?_
 refine s_le ?_
 refine s_as ?_
 refine zf (zd (zh (zm ?_)))
 cases F12
 exact zk [] [] Tryz.results52
def m_spec_l5Shape_AC (fuel:Nat):Prop:=∀ (x1:Form) (x2:(List Form)) (r:(List Hit)),zfx fuel x1 x2=some r→AC Tryz.prog 128 [.ag [.t (.sc (.int .i64 x1.kind)),.t (.sc (.str x1.name)),.t (.sc (.int .i64 x1.n)),.t (.sl (x1.scopes.map rI)),.t (.sl (x1.kids.map Form.row))],.t (.sl (x2.map Form.row))] noOb (.t (.sl (r.map Hit.row))) noOb
theorem m_spec_l5Shape_ok (fuel:Nat):m_spec_l5Shape_AC fuel:=by
 intro x1 x2 r F0
 unfold zfx at F0
 refine AC_i [.t (.sl (r.map Hit.row))] Tryz.func128 rfl Tryz.ntmps128 ?_
 intro C hC
 refine zb (za ?_)
 refine za7 ?_
 refine s_as ?_
 refine zf (zd (zb (za ?_)))
 refine s_bs Hit.row ([]:List Hit) yP42 yR55 ?_
 refine s_as ?_
 refine zf (zd (zb (za ?_)))
 refine s_bs Form.row ([]:List Form) yP24 yR32 ?_
 refine zI yA32 yS32 ?_
 refine s_mv ?_
 obtain ⟨v1,V1,F1⟩:=zc F0
 refine zL [(9300,11),(9200,12014)] [] _ _ (m_spec_l4Vars_ok fuel _ _ _ _ V1) ?_
 refine s_as ?_
 refine zf (zd (zb (za ?_)))
 refine s_bs rI ([]:List Int) yP27 yR3 ?_
 refine zI yA32 yS32 ?_
 refine s_mv ?_
 obtain ⟨v2,V2,F2⟩:=zc F1
 refine zL [(9300,15),(9200,12018)] [] _ _ (zhu fuel _ _ _ _ _ V2) ?_
 refine s_as ?_
 refine zf (zd (zb (zb (za ?_))))
 refine s_as ?_
 refine zf (zd (zl ?_))
 refine zdf 5 10 5020 (by conv=>lhs;whnf) (by conv=>lhs;whnf) rfl ?_
 refine zaz [5,8,9,19,20,21,22,23,24,25,26,27,28,29,30,31,32,33,34,35,36,37,38,39,40,41,42,43,44,45] [5020] [9,44,45] [5020] (fun a:Nat × (List Hit) × Int=>a.1) (fun a:Nat × (List Hit) × Int=>[(5,.ar 5020),(8,.t (.sc (.int .i64 a.2.2)))]) (fun a:Nat × (List Hit) × Int=>[(5020,.arr (a.2.1.map Hit.row) 55 true)]) (fun a:Nat × (List Hit) × Int=>a.1≤fuel∧zbN a.1 v1 v2 a.2.1 a.2.2=some r∧0≤a.2.2) (fuel,([]:List Hit),0) ⟨Nat.le_refl _,F2,by simp⟩ (by rfl) (by rfl) (fun _=>rfl) (zQ (by conv=>lhs;whnf) (by rfl) (zQ (by conv=>lhs;whnf) (by rfl) zbA)) (zV (by conv=>lhs;whnf) (by rfl) zbl) (zcq hC rfl) (by repeat (first | exact zai rfl | refine zax rfl ?_ | refine z8 rfl ?_)) (by repeat (first | exact zaU | exact zan rfl | refine zay rfl ?_ | refine z9 rfl ?_)) ?_
 clear F2
 rintro ⟨fu,g3,g4⟩ ⟨hl5,F3,hn_g4⟩
 dsimp only at hl5 F3 hn_g4 ⊢
 obtain _ | fu:=fu
 · rw [zbN] at F3;cases F3
 rw [zbN] at F3
 refine zb (zb (za ?_))
 refine s_mv ?_
 refine s_mv ?_
 refine zgv yU24 ?_
 refine s_lt ?_
 refine zf (zd ?_)
 refine zn F3 ?_ ?_<;>intro C6 F4
 refine zic 6 12014 (fun B7=>?_)
 refine zi (zd (zb (zl (zb ?_))))
 refine zZ yMix (by kernel_rfl) ?_
 refine s_mv ?_
 refine s_mv ?_
 obtain ⟨v8,V8,F5⟩:=zc F4
 refine zhC Form.row V8 yE24 ?_
 refine s_lAN Form.row V8 (Form.row_eq _) yA32 yS32 ?_
 refine s_mv ?_
 refine s_mv ?_
 obtain ⟨v9,V9,F6⟩:=zc F5
 refine zhC rI V9 yE27 ?_
 refine s_lA1 rI V9 rfl yA3 ?_
 refine zgQ yZ55 yL55 ?_
 refine z4 yZ55 ?_
 refine zal yS55 ?_
 refine zam (by kernel_rfl) ?_
 refine zd (zb (zb (za ?_)))
 refine s_fa yF55_1 ?_
 refine zu yA3 ?_
 refine s_eq ?_
 refine zf (zd ?_)
 refine zn F6 ?_ ?_<;>intro C10 F7
 refine za ?_
 refine s_mv ?_
 refine s_mv ?_
 obtain ⟨v11,V11,F8⟩:=zc F7
 refine zhC Form.row V11 yE24 ?_
 refine s_lAN Form.row V11 (Form.row_eq _) yA32 yS32 ?_
 refine s_fa yF55_2 ?_
 refine s_stP yS32 ?_
 refine zf (zd (za ?_))
 refine s_mv ?_
 refine zI yA55 yS55 ?_
 refine s_bs Hit.row [(Hit.mk v8 v9 v11 ([]:List Hit))] yP42 yR55 ?_
 obtain ⟨hk12,F9⟩:=zat F8
 refine zfw Hit.row (fun y=>Hit.row_len y) hk12 yP42 ?_
 refine s_as ?_
 refine zf (zU (zd (za ?_)))
 refine s_mv ?_
 refine zH (zaq C6 B7 hn_g4) ?_
 refine s_as ?_
 refine zf ?_
 exact s_rn (fu,(g3++[(Hit.mk v8 v9 v11 ([]:List Hit))]),(g4+1)) ⟨by first | omega | (dsimp only;omega),F9,by first | omega | (dsimp only;omega)⟩ [(5020,45)]
 refine zi (zd (za ?_))
 refine s_mv ?_
 refine zI yA55 yS55 ?_
 refine s_bs Hit.row [(Hit.mk v8 v9 (Form.mk 0 (⟨#[]⟩:ByteArray) 0 ([]:List Int) ([]:List Form)) ([]:List Hit))] yP42 yR55 ?_
 obtain ⟨hk13,F8⟩:=zat F7
 refine zfw Hit.row (fun y=>Hit.row_len y) hk13 yP42 ?_
 refine s_as ?_
 refine zf (zU (zd (za ?_)))
 refine s_mv ?_
 refine zH (zaq C6 B7 hn_g4) ?_
 refine s_as ?_
 refine zf ?_
 exact s_rn (fu,(g3++[(Hit.mk v8 v9 (Form.mk 0 (⟨#[]⟩:ByteArray) 0 ([]:List Int) ([]:List Form)) ([]:List Hit))]),(g4+1)) ⟨by first | omega | (dsimp only;omega),F8,by first | omega | (dsimp only;omega)⟩ [(5020,45)]
 refine zA (zq (zp (zr (zd (zb (za ?_))))))
 refine s_mv ?_
 refine s_as ?_
 refine zf (zd (zh (zm ?_)))
 cases F4
 exact zk [] [5020] Tryz.results128
def m_spec_l4Find_AC (fuel:Nat):Prop:=∀ (x1:(List Hit)) (x2:Form) (r:Int),zg2 fuel x1 x2=some r→AC Tryz.prog 97 [.t (.sl (x1.map Hit.row)),.ag [.t (.sc (.int .i64 x2.kind)),.t (.sc (.str x2.name)),.t (.sc (.int .i64 x2.n)),.t (.sl (x2.scopes.map rI)),.t (.sl (x2.kids.map Form.row))]] noOb (.t (.sc (.int .i64 r))) noOb
theorem m_spec_l4Find_ok (fuel:Nat):m_spec_l4Find_AC fuel:=by
 intro x1 x2 r F0
 unfold zg2 at F0
 refine AC_i [.t (.sc (.int .i64 r))] Tryz.func97 rfl Tryz.ntmps97 ?_
 intro C hC
 refine zb (za ?_)
 refine za7 ?_
 refine s_as ?_
 refine zf (zd (zb (zb (za ?_))))
 refine s_as ?_
 refine zf (zd (zl ?_))
 refine zaX (β:=Int) [4,5,6,7,8,9,10,11,12,13,14,15,16,17,18,19] [] [] (fun a=>[(5,.t (.sc (.int .i64 a.2)))]) (fun a=>[]) (fun a=>a.1≤fuel∧zcT a.1 x1 x2 a.2=some r∧0≤a.2) (fuel,0) ⟨Nat.le_refl _,F0,by simp⟩ ?_
 clear F0
 rintro ⟨fu,g1⟩ ⟨hl2,F1,hn_g1⟩
 dsimp only at hl2 F1 hn_g1 ⊢
 obtain _ | fu:=fu
 · rw [zcT] at F1;cases F1
 rw [zcT] at F1
 refine zb (zb (za ?_))
 refine s_mv ?_
 refine s_mv ?_
 refine zF yU42 ?_
 refine s_lt ?_
 refine zf (zd ?_)
 refine zn F1 ?_ ?_<;>intro C3 F2
 refine zN 0 (fun B4=>?_)
 refine zi (zd (zb (zl (zb ?_))))
 refine zZ yMix (by kernel_rfl) ?_
 refine s_mv ?_
 refine s_mv ?_
 obtain ⟨v5,V5,F3⟩:=zc F2
 refine zR Hit.row V5 (Hit.row_eq _) yE42 ?_
 refine s_fa yF55_0 ?_
 refine zak yA32 yS32 ?_
 refine zI yA32 yS32 ?_
 obtain ⟨v6,V6,F4⟩:=zc F3
 refine zx [] (zge fu _ _ _ V6) ?_
 refine zam (by kernel_rfl) ?_
 refine zd ?_
 refine zn F4 ?_ ?_<;>intro C7 F5
 refine zb (za ?_)
 refine s_mv ?_
 refine s_as ?_
 refine zf (zd (zh (zj (zg (zw (zj (zg (zm ?_))))))))
 cases F5
 exact zk [] [] Tryz.results97
 refine zi (zU (zd (za ?_)))
 refine s_mv ?_
 refine zH (zaq C3 B4 hn_g1) ?_
 refine s_as ?_
 refine zf ?_
 exact s_rn (fu,(g1+1)) ⟨by first | omega | (dsimp only;omega),F5,by first | omega | (dsimp only;omega)⟩
 refine zA (zq (zp (zr (zd (zb (za ?_))))))
 refine s_as ?_
 refine zf (zd (zh (zm ?_)))
 cases F2
 exact zk [] [] Tryz.results97
def m_spec_l5Depth_AC (fuel:Nat):Prop:=∀ (x1:(List Hit)) (x2:Form) (r:Int),zeH fuel x1 x2=some r→AC Tryz.prog 141 [.t (.sl (x1.map Hit.row)),.ag [.t (.sc (.int .i64 x2.kind)),.t (.sc (.str x2.name)),.t (.sc (.int .i64 x2.n)),.t (.sl (x2.scopes.map rI)),.t (.sl (x2.kids.map Form.row))]] noOb (.t (.sc (.int .i64 r))) noOb
theorem zhF (fuel:Nat):m_spec_l5Depth_AC fuel:=by
 intro x1 x2 r F0
 unfold zeH at F0
 refine AC_i [.t (.sc (.int .i64 r))] Tryz.func141 rfl Tryz.ntmps141 ?_
 intro C hC
 refine zb (za ?_)
 refine za7 ?_
 refine s_as ?_
 refine zf (zd (zb (zb (za ?_))))
 refine s_fa zcN ?_
 refine zu yA3 ?_
 refine s_ne ?_
 refine zf (zd ?_)
 refine zn F0 ?_ ?_<;>intro C1 F1
 refine zb (za ?_)
 refine s_as ?_
 refine zf (zd (zh (zg (zm ?_))))
 cases F1
 exact zk [] [] Tryz.results141
 refine zi (zd (zb (za ?_)))
 refine s_mv ?_
 refine zI yA32 yS32 ?_
 obtain ⟨v2,V2,F2⟩:=zc F1
 refine zx [] (m_spec_l4Find_ok fuel _ _ _ V2) ?_
 refine s_as ?_
 refine zf (zd (zb (zb (za ?_))))
 refine s_mv ?_
 refine s_lt ?_
 refine zf (zd ?_)
 refine zn F2 ?_ ?_<;>intro C3 F3
 refine zb (za ?_)
 refine s_as ?_
 refine zf (zd (zh (zg (zm ?_))))
 cases F3
 exact zk [] [] Tryz.results141
 refine zi (zd (zb (za ?_)))
 refine s_mv ?_
 refine s_mv ?_
 obtain ⟨v4,V4,F4⟩:=zc F3
 refine zR Hit.row V4 (Hit.row_eq _) yE42 ?_
 refine s_fa yF55_1 ?_
 refine zu yA3 ?_
 refine s_as ?_
 refine zf (zd (zh (zm ?_)))
 cases F4
 exact zk [] [] Tryz.results141
def zfP (fuel:Nat):Prop:=∀ (x1:(List Hit)) (x2:Form) (r:Bool),zd3 fuel x1 x2=some r→AC Tryz.prog 142 [.t (.sl (x1.map Hit.row)),.ag [.t (.sc (.int .i64 x2.kind)),.t (.sc (.str x2.name)),.t (.sc (.int .i64 x2.n)),.t (.sl (x2.scopes.map rI)),.t (.sl (x2.kids.map Form.row))]] noOb (.t (.sc (.bool r))) noOb
theorem m_spec_l5Rows_st (fu:Nat) (ih_m_spec_l5Rows:∀ k,k≤fu→zfP k):zfP (fu+1):=by
 intro x1 x2 r F0
 rw [zd3] at F0
 refine AC_i [.t (.sc (.bool r))] Tryz.func142 rfl Tryz.ntmps142 ?_
 intro C hC
 refine zb (za ?_)
 refine za7 ?_
 refine s_as ?_
 refine zf (zd (zb (zb (za ?_))))
 refine s_mv ?_
 refine zI yA32 yS32 ?_
 obtain ⟨v1,V1,F1⟩:=zc F0
 refine zx [] (zhF fu _ _ _ V1) ?_
 refine s_gt ?_
 refine zf (zd ?_)
 refine zn F1 ?_ ?_<;>intro C2 F2
 refine zb (za ?_)
 refine s_as ?_
 refine zf (zd (zh (zg (zm ?_))))
 cases F2
 exact zk [] [] Tryz.results142
 refine zi (zd (zb (zb (za ?_))))
 refine s_as ?_
 refine zf (zd (zl ?_))
 refine zaX (β:=Int) [4,5,10,11,12,13,14,15,16,17,18,19,20,21,22,23] [] [] (fun a=>[(5,.t (.sc (.int .i64 a.2)))]) (fun a=>[]) (fun a=>a.1≤fu∧zck a.1 x1 x2 a.2=some r∧0≤a.2) (fu,0) ⟨Nat.le_refl _,F2,by simp⟩ ?_
 clear F2
 rintro ⟨fu,g3⟩ ⟨hl4,F3,hn_g3⟩
 dsimp only at hl4 F3 hn_g3 ⊢
 obtain _ | fu:=fu
 · rw [zck] at F3;cases F3
 rw [zck] at F3
 refine zb (zb (za ?_))
 refine s_mv ?_
 refine s_fa zD ?_
 refine zu yA24 ?_
 refine zF yU24 ?_
 refine s_lt ?_
 refine zf (zd ?_)
 refine zn F3 ?_ ?_<;>intro C5 F4
 refine zN 12 (fun B6=>?_)
 refine zi (zd (zb (zl (zb (za ?_)))))
 refine s_mv ?_
 refine s_fa zD ?_
 refine zu yA24 ?_
 refine s_mv ?_
 obtain ⟨v7,V7,F5⟩:=zc F4
 refine zR Form.row V7 (Form.row_eq _) yE24 ?_
 refine zak yA32 yS32 ?_
 obtain ⟨v8,V8,F6⟩:=zc F5
 refine zx [] (ih_m_spec_l5Rows fu (by omega) _ _ _ V8) ?_
 refine zf (zd ?_)
 refine zn F6 ?_ ?_<;>intro C9 F7
 refine zb (za ?_)
 refine s_as ?_
 refine zf (zd (zh (zj (zg (zw (zj (zg (zm ?_))))))))
 cases F7
 exact zk [] [] Tryz.results142
 refine zi (zU (zd (za ?_)))
 refine s_mv ?_
 refine zH (zaq C5 B6 hn_g3) ?_
 refine s_as ?_
 refine zf ?_
 exact s_rn (fu,(g3+1)) ⟨by first | omega | (dsimp only;omega),F7,by first | omega | (dsimp only;omega)⟩
 refine zA (zq (zp (zr (zd (zb (za ?_))))))
 refine s_as ?_
 refine zf (zd (zh (zm ?_)))
 cases F4
 exact zk [] [] Tryz.results142
theorem m_spec_l5Rows_all (fuel:Nat):zfP fuel:=by
 induction fuel using Nat.strongRecOn with
 | _ N ih =>
   cases N with
   | zero=>exact (by intro x1 x2 r h;rw [zd3] at h;cases h)
   | succ fu=>exact m_spec_l5Rows_st fu (fun k hk=>(ih k (by omega)))
theorem m_spec_l5Rows_ok (fuel:Nat):zfP fuel:=(m_spec_l5Rows_all fuel)
end Go.Abs
