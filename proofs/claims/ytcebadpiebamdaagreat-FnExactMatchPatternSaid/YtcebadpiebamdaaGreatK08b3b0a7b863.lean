/- A part of the proof: what the functions that the law calls answer, as pure values. -/
import Derived.Test.YtcebadpiebamdaaGreatK006dda84d553
import Derived.Test.YtcebadpiebamdaaGreatK863b9396a6d1
import Derived.Test.YtcebadpiebamdaaGreatKd2883bf7562e
set_option linter.unusedSimpArgs false
set_option linter.unusedVariables false
set_option maxRecDepth 100000
set_option maxHeartbeats 4000000
namespace Go.Abs
open Go.Proofs
theorem m_spec_l4Shape_all (fuel:Nat):zeB fuel:=by
 induction fuel using Nat.strongRecOn with
 | _ N ih =>
   cases N with
   | zero=>exact (by intro x1 r h;rw [zds] at h;cases h)
   | succ fu=>exact m_spec_l4Shape_st fu (fun k hk=>(ih k (by omega)))
theorem m_spec_l4Shape_ok (fuel:Nat):zeB fuel:=(m_spec_l4Shape_all fuel)
def m_spec_l4Var_AC (fuel:Nat):Prop:=∀ (x1:Form) (x2:(List Form)) (r:Bool),zfk fuel x1 x2=some r→AC Tryz.prog 127 [.ag [.t (.sc (.int .i64 x1.kind)),.t (.sc (.str x1.name)),.t (.sc (.int .i64 x1.n)),.t (.sl (x1.scopes.map rI)),.t (.sl (x1.kids.map Form.row))],.t (.sl (x2.map Form.row))] noOb (.t (.sc (.bool r))) noOb
theorem m_spec_l4Var_ok (fuel:Nat):m_spec_l4Var_AC fuel:=by
 intro x1 x2 r F0
 unfold zfk at F0
 refine AC_i [.t (.sc (.bool r))] Tryz.func127 rfl Tryz.ntmps127 ?_
 intro C hC
 refine zb (za ?_)
 refine zbo ?_
 refine s_as ?_
 refine zf (zd (zb (za ?_)))
 refine s_fa zcD ?_
 refine zq yA3 ?_
 refine s_eq ?_
 refine s_mv ?_
 refine zx _ 8 F0 ?_ ?_<;>intro C1 F1
 refine s_fa zbC ?_
 refine zq yA9 ?_
 refine s_neS ?_
 refine zC ?_
 refine s_mv ?_
 refine zx _ 13 F1 ?_ ?_<;>intro C2 F2
 refine s_fa zbC ?_
 refine zq yA9 ?_
 refine s_neS ?_
 refine zC ?_
 refine s_mv ?_
 refine zx _ 18 F2 ?_ ?_<;>intro C3 F3
 refine s_mv ?_
 refine z6 yA37 yS37 ?_
 obtain ⟨v4,V4,F4⟩:=zc F3
 refine zy [] (zfV fuel _ _ _ V4) ?_
 refine zbh ?_
 refine zC ?_
 refine s_as ?_
 refine zf (zd (zh (zo ?_)))
 cases F4
 exact zk [] [] Tryz.results127
 iterate 4 refine r_no rfl ?_
 refine zD ?_
 refine s_as ?_
 refine zf (zd (zh (zo ?_)))
 cases F3
 exact zk [] [] Tryz.results127
 iterate 3 refine r_no rfl ?_
 refine zD ?_
 refine s_mv ?_
 iterate 4 refine r_no rfl ?_
 refine zD ?_
 refine s_as ?_
 refine zf (zd (zh (zo ?_)))
 cases F2
 exact zk [] [] Tryz.results127
 iterate 3 refine r_no rfl ?_
 refine zD ?_
 refine s_mv ?_
 iterate 3 refine r_no rfl ?_
 refine zD ?_
 refine s_mv ?_
 iterate 4 refine r_no rfl ?_
 refine zD ?_
 refine s_as ?_
 refine zf (zd (zh (zo ?_)))
 cases F1
 exact zk [] [] Tryz.results127
def ze1 (fuel:Nat):Prop:=∀ (x1:(List Form)) (x2:Form) (x3:(List Form)) (r:(List Form)),zcS fuel x1 x2 x3=some r→AC Tryz.prog 83 [.ar 9300,.ag [.t (.sc (.int .i64 x2.kind)),.t (.sc (.str x2.name)),.t (.sc (.int .i64 x2.n)),.t (.sl (x2.scopes.map rI)),.t (.sl (x2.kids.map Form.row))],.t (.sl (x3.map Form.row))] (objs [(9300,.arr (x1.map Form.row) 37 true)]) (.ar 9200) (objs [(9300,.dead),(9200,.arr (r.map Form.row) 37 true)])
theorem m_spec_l4Vars_st (fu:Nat) (ih_m_spec_l4Vars:∀ k,k≤fu→ze1 k):ze1 (fu+1):=by
 intro x1 x2 x3 r F0
 rw [zcS] at F0
 refine AC_i [.ar 9200] Tryz.func83 rfl Tryz.ntmps83 ?_
 intro C hC
 refine zb (za ?_)
 refine zbo ?_
 refine s_as ?_
 refine zf (zd (zb (zb (za ?_))))
 refine z6 yA37 yS37 ?_
 refine s_mv ?_
 obtain ⟨v1,V1,F1⟩:=zc F0
 refine zy [] (m_spec_l4Var_ok fu _ _ _ V1) ?_
 refine zf (zd ?_)
 refine zn F1 ?_ ?_<;>intro C2 F2
 refine za ?_
 refine s_mv ?_
 refine z6 yA37 yS37 ?_
 refine s_bs Form.row [x2] yP35 yR37 ?_
 obtain ⟨hk3,F3⟩:=zat F2
 refine zgC Form.row (fun y=>Form.row_len y) hk3 yP35 ?_
 refine s_as ?_
 refine zf (zd (zb (zb (za ?_))))
 refine s_as ?_
 refine zf (zd (zl ?_))
 refine zeY 0 14 5020 (by conv=>lhs;whnf) (by conv=>lhs;whnf) rfl ?_
 refine zap [0,7,15,16,17,18,19,20,21,22,23,24,25,26,27,28,29] [5020] [12029] [5020] (fun a:Nat × (List Form) × Int=>a.1) (fun a:Nat × (List Form) × Int=>[(0,.ar 5020),(7,.t (.sc (.int .i64 a.2.2)))]) (fun a:Nat × (List Form) × Int=>[(5020,.arr (a.2.1.map Form.row) 37 true)]) (fun a:Nat × (List Form) × Int=>a.1≤fu∧zav a.1 x2 x3 a.2.1 a.2.2=some r∧0≤a.2.2) (fu,(x1++[x2]),0) ⟨Nat.le_refl _,F3,by simp⟩ (by rfl) (by rfl) (fun _=>rfl) (zZ (by conv=>lhs;whnf) (by rfl) (zZ (by conv=>lhs;whnf) (by rfl) zbP)) (zQ (by conv=>lhs;whnf) (by rfl) zbp) (zcP hC rfl) (by repeat (first | exact zah rfl | refine zaA rfl ?_ | refine zab rfl ?_)) (by repeat (first | exact za5 | exact zal rfl | refine zaB rfl ?_ | refine zac rfl ?_)) ?_
 clear F3
 rintro ⟨fu,g4,g5⟩ ⟨hl6,F4,hn_g5⟩
 dsimp only at hl6 F4 hn_g5 ⊢
 obtain _ | fu:=fu
 · rw [zav] at F4;cases F4
 rw [zav] at F4
 refine zb (zb (za ?_))
 refine s_mv ?_
 refine s_fa zJ ?_
 refine zq yA35 ?_
 refine zB yU35 ?_
 refine s_lt ?_
 refine zf (zd ?_)
 refine zn F4 ?_ ?_<;>intro C7 F5
 refine zH 17 (fun B8=>?_)
 refine zi (zd (zb (zl (za ?_))))
 refine s_mv ?_
 refine s_fa zJ ?_
 refine zq yA35 ?_
 refine s_mv ?_
 obtain ⟨v9,V9,F6⟩:=zc F5
 refine zN Form.row V9 (Form.row_eq _) yE35 ?_
 refine zaI yA37 yS37 ?_
 refine s_mv ?_
 obtain ⟨v10,V10,F7⟩:=zc F6
 refine zT [(9300,5020),(9200,12029)] [] _ _ (ih_m_spec_l4Vars fu (by omega) _ _ _ _ V10) ?_
 refine s_as ?_
 refine zf (zY (zd (za ?_)))
 refine s_mv ?_
 refine zE (zaF C7 B8 hn_g5) ?_
 refine s_as ?_
 refine zf ?_
 exact s_rn (fu,v10,(g5+1)) ⟨by first | omega | (dsimp only;omega),F7,by first | omega | (dsimp only;omega)⟩ [(5020,12029)]
 refine zA (zr (zp (zu (zd (zb (za ?_))))))
 refine s_mv ?_
 refine s_as ?_
 refine zf (zd ?_)
 refine zeY 6 5020 9200 (by conv=>lhs;whnf) (by conv=>lhs;whnf) rfl ?_
 refine zh (zo ?_)
 cases F5
 exact zk _ [] Tryz.results83
 refine zi (zd (zb (zb (za ?_))))
 refine s_as ?_
 refine zf (zd (zl ?_))
 refine zeY 0 9300 5040 (by conv=>lhs;whnf) (by conv=>lhs;whnf) rfl ?_
 refine zap [0,7,15,16,17,18,19,20,21,22,23,24,25,26,27,28,29] [5040] [12029] [5040] (fun a:Nat × (List Form) × Int=>a.1) (fun a:Nat × (List Form) × Int=>[(0,.ar 5040),(7,.t (.sc (.int .i64 a.2.2)))]) (fun a:Nat × (List Form) × Int=>[(5040,.arr (a.2.1.map Form.row) 37 true)]) (fun a:Nat × (List Form) × Int=>a.1≤fu∧zav a.1 x2 x3 a.2.1 a.2.2=some r∧0≤a.2.2) (fu,x1,0) ⟨Nat.le_refl _,F2,by simp⟩ (by rfl) (by rfl) (fun _=>rfl) (zZ (by conv=>lhs;whnf) (by rfl) (zZ (by conv=>lhs;whnf) (by rfl) zbP)) (zQ (by conv=>lhs;whnf) (by rfl) zbp) (zcP hC rfl) (by repeat (first | exact zah rfl | refine zaA rfl ?_ | refine zab rfl ?_)) (by repeat (first | exact za5 | exact zal rfl | refine zaB rfl ?_ | refine zac rfl ?_)) ?_
 clear F2
 rintro ⟨fu,g11,g12⟩ ⟨hl13,F3,hn_g12⟩
 dsimp only at hl13 F3 hn_g12 ⊢
 obtain _ | fu:=fu
 · rw [zav] at F3;cases F3
 rw [zav] at F3
 refine zb (zb (za ?_))
 refine s_mv ?_
 refine s_fa zJ ?_
 refine zq yA35 ?_
 refine zB yU35 ?_
 refine s_lt ?_
 refine zf (zd ?_)
 refine zn F3 ?_ ?_<;>intro C14 F4
 refine zH 17 (fun B15=>?_)
 refine zi (zd (zb (zl (za ?_))))
 refine s_mv ?_
 refine s_fa zJ ?_
 refine zq yA35 ?_
 refine s_mv ?_
 obtain ⟨v16,V16,F5⟩:=zc F4
 refine zN Form.row V16 (Form.row_eq _) yE35 ?_
 refine zaI yA37 yS37 ?_
 refine s_mv ?_
 obtain ⟨v17,V17,F6⟩:=zc F5
 refine zT [(9300,5040),(9200,12029)] [] _ _ (ih_m_spec_l4Vars fu (by omega) _ _ _ _ V17) ?_
 refine s_as ?_
 refine zf (zY (zd (za ?_)))
 refine s_mv ?_
 refine zE (zaF C14 B15 hn_g12) ?_
 refine s_as ?_
 refine zf ?_
 exact s_rn (fu,v17,(g12+1)) ⟨by first | omega | (dsimp only;omega),F6,by first | omega | (dsimp only;omega)⟩ [(5040,12029)]
 refine zA (zr (zp (zu (zd (zb (za ?_))))))
 refine s_mv ?_
 refine s_as ?_
 refine zf (zd ?_)
 refine zeY 6 5040 9200 (by conv=>lhs;whnf) (by conv=>lhs;whnf) rfl ?_
 refine zh (zo ?_)
 cases F4
 exact zk _ [] Tryz.results83
theorem m_spec_l4Vars_all (fuel:Nat):ze1 fuel:=by
 induction fuel using Nat.strongRecOn with
 | _ N ih =>
   cases N with
   | zero=>exact (by intro x1 x2 x3 r h;rw [zcS] at h;cases h)
   | succ fu=>exact m_spec_l4Vars_st fu (fun k hk=>(ih k (by omega)))
theorem m_spec_l4Vars_ok (fuel:Nat):ze1 fuel:=(m_spec_l4Vars_all fuel)
def zeh (fuel:Nat):Prop:=∀ (x1:(List Int)) (x2:Form) (x3:(List Form)) (x4:Int) (r:(List Int)),za0 fuel x1 x2 x3 x4=some r→AC Tryz.prog 85 [.ar 9300,.ag [.t (.sc (.int .i64 x2.kind)),.t (.sc (.str x2.name)),.t (.sc (.int .i64 x2.n)),.t (.sl (x2.scopes.map rI)),.t (.sl (x2.kids.map Form.row))],.t (.sl (x3.map Form.row)),.t (.sc (.int .i64 x4))] (objs [(9300,.arr (x1.map rI) 3 true)]) (.ar 9200) (objs [(9300,.dead),(9200,.arr (r.map rI) 3 true)])
theorem m_spec_l4Depths_st (fu:Nat) (ih_m_spec_l4Depths:∀ k,k≤fu→zeh k):zeh (fu+1):=by
 intro x1 x2 x3 x4 r F0
 rw [za0] at F0
 refine AC_i [.ar 9200] Tryz.func85 rfl Tryz.ntmps85 ?_
 intro C hC
 refine zb (za ?_)
 refine zbo ?_
 refine s_as ?_
 refine zf (zd (zb (zb (za ?_))))
 refine z6 yA37 yS37 ?_
 refine s_mv ?_
 obtain ⟨v1,V1,F1⟩:=zc F0
 refine zy [] (m_spec_l4Var_ok fu _ _ _ V1) ?_
 refine zf (zd ?_)
 refine zn F1 ?_ ?_<;>intro C2 F2
 refine za ?_
 refine s_mv ?_
 refine s_mv ?_
 refine s_bs rI [x4] yP23 yR3 ?_
 obtain ⟨hk3,F3⟩:=zat F2
 refine zgC rI (fun _=>rfl) hk3 yP23 ?_
 refine s_as ?_
 refine zf (zd (zb (zb (za ?_))))
 refine s_as ?_
 refine zf (zd (zl ?_))
 refine zeY 0 17 5020 (by conv=>lhs;whnf) (by conv=>lhs;whnf) rfl ?_
 refine zap [0,9,10,18,19,20,21,22,23,24,25,26,27,28,29,30,31,32,33,34,35,36,37,38,39,40,41,42,43,44,45,46,47,48,49,50,51] [5020] [12051] [5020] (fun a:Nat × (List Int) × Int=>a.1) (fun a:Nat × (List Int) × Int=>[(0,.ar 5020),(9,.t (.sc (.int .i64 a.2.2)))]) (fun a:Nat × (List Int) × Int=>[(5020,.arr (a.2.1.map rI) 3 true)]) (fun a:Nat × (List Int) × Int=>a.1≤fu∧zX a.1 x2 x3 x4 a.2.1 a.2.2=some r∧0≤a.2.2) (fu,(x1++[x4]),0) ⟨Nat.le_refl _,F3,by simp⟩ (by rfl) (by rfl) (fun _=>rfl) (zZ (by conv=>lhs;whnf) (by rfl) (zZ (by conv=>lhs;whnf) (by rfl) zbP)) (zQ (by conv=>lhs;whnf) (by rfl) zbp) (zcP hC rfl) (by repeat (first | exact zah rfl | refine zaA rfl ?_ | refine zab rfl ?_)) (by repeat (first | exact za5 | exact zal rfl | refine zaB rfl ?_ | refine zac rfl ?_)) ?_
 clear F3
 rintro ⟨fu,g4,g5⟩ ⟨hl6,F4,hn_g5⟩
 dsimp only at hl6 F4 hn_g5 ⊢
 obtain _ | fu:=fu
 · rw [zX] at F4;cases F4
 rw [zX] at F4
 refine zb (zb (za ?_))
 refine s_mv ?_
 refine s_fa zJ ?_
 refine zq yA35 ?_
 refine zB yU35 ?_
 refine s_lt ?_
 refine zf (zd ?_)
 refine zn F4 ?_ ?_<;>intro C7 F5
 refine zH 20 (fun B8=>?_)
 refine zi (zd (zb (zl (zb (za ?_)))))
 refine s_mv ?_
 refine s_as ?_
 refine zf (zd (zb (zb (za ?_))))
 refine s_mv ?_
 refine zE (zaF C7 B8 hn_g5) ?_
 refine s_fa zJ ?_
 refine zq yA35 ?_
 refine zB yU35 ?_
 refine s_lt ?_
 refine s_mv ?_
 refine zx _ 32 F5 ?_ ?_<;>intro C9 F6
 refine s_fa zJ ?_
 refine zq yA35 ?_
 refine s_mv ?_
 refine zE (zaF C7 B8 hn_g5) ?_
 obtain ⟨v10,V10,F7⟩:=zc F6
 refine zN Form.row V10 (Form.row_eq _) yE35 ?_
 refine zaI yA37 yS37 ?_
 obtain ⟨v11,V11,F8⟩:=zc F7
 refine zy [] (zcG fu _ _ V11) ?_
 refine zC ?_
 refine zf (zd ?_)
 refine zn F8 ?_ ?_<;>intro C12 F9
 refine za ?_
 refine s_mv ?_
 refine zE rfl ?_
 refine s_as ?_
 refine zf (zd (za ?_))
 refine s_mv ?_
 refine s_fa zJ ?_
 refine zq yA35 ?_
 refine s_mv ?_
 obtain ⟨v13,V13,F10⟩:=zc F9
 refine zN Form.row V13 (Form.row_eq _) yE35 ?_
 refine zaI yA37 yS37 ?_
 refine s_mv ?_
 refine s_mv ?_
 obtain ⟨v14,V14,F11⟩:=zc F10
 refine zT [(9300,5020),(9200,12051)] [] _ _ (ih_m_spec_l4Depths fu (by omega) _ _ _ _ _ V14) ?_
 refine s_as ?_
 refine zf (zY (zd (za ?_)))
 refine s_mv ?_
 refine zE (zaF C7 B8 hn_g5) ?_
 refine s_as ?_
 refine zf ?_
 exact s_rn (fu,v14,(g5+1)) ⟨by first | omega | (dsimp only;omega),F11,by first | omega | (dsimp only;omega)⟩ [(5020,12051)]
 refine zi (zd (za ?_))
 refine s_mv ?_
 refine s_fa zJ ?_
 refine zq yA35 ?_
 refine s_mv ?_
 obtain ⟨v15,V15,F10⟩:=zc F9
 refine zN Form.row V15 (Form.row_eq _) yE35 ?_
 refine zaI yA37 yS37 ?_
 refine s_mv ?_
 refine s_mv ?_
 obtain ⟨v16,V16,F11⟩:=zc F10
 refine zT [(9300,5020),(9200,12051)] [] _ _ (ih_m_spec_l4Depths fu (by omega) _ _ _ _ _ V16) ?_
 refine s_as ?_
 refine zf (zY (zd (za ?_)))
 refine s_mv ?_
 refine zE (zaF C7 B8 hn_g5) ?_
 refine s_as ?_
 refine zf ?_
 exact s_rn (fu,v16,(g5+1)) ⟨by first | omega | (dsimp only;omega),F11,by first | omega | (dsimp only;omega)⟩ [(5020,12051)]
 iterate 7 refine r_no rfl ?_
 refine zD ?_
 refine zf (zd (zcC rfl (zi (zd (za ?_)))))
 refine s_mv ?_
 refine s_fa zJ ?_
 refine zq yA35 ?_
 refine s_mv ?_
 obtain ⟨v17,V17,F7⟩:=zc F6
 refine zN Form.row V17 (Form.row_eq _) yE35 ?_
 refine zaI yA37 yS37 ?_
 refine s_mv ?_
 refine s_mv ?_
 obtain ⟨v18,V18,F8⟩:=zc F7
 refine zT [(9300,5020),(9200,12051)] [] _ _ (ih_m_spec_l4Depths fu (by omega) _ _ _ _ _ V18) ?_
 refine s_as ?_
 refine zf (zY (zd (za ?_)))
 refine s_mv ?_
 refine zE (zaF C7 B8 hn_g5) ?_
 refine s_as ?_
 refine zf ?_
 exact s_rn (fu,v18,(g5+1)) ⟨by first | omega | (dsimp only;omega),F8,by first | omega | (dsimp only;omega)⟩ [(5020,12051)]
 refine zA (zr (zp (zu (zd (zb (za ?_))))))
 refine s_mv ?_
 refine s_as ?_
 refine zf (zd ?_)
 refine zeY 8 5020 9200 (by conv=>lhs;whnf) (by conv=>lhs;whnf) rfl ?_
 refine zh (zo ?_)
 cases F5
 exact zk _ [] Tryz.results85
 refine zi (zd (zb (zb (za ?_))))
 refine s_as ?_
 refine zf (zd (zl ?_))
 refine zeY 0 9300 5040 (by conv=>lhs;whnf) (by conv=>lhs;whnf) rfl ?_
 refine zap [0,9,10,18,19,20,21,22,23,24,25,26,27,28,29,30,31,32,33,34,35,36,37,38,39,40,41,42,43,44,45,46,47,48,49,50,51] [5040] [12051] [5040] (fun a:Nat × (List Int) × Int=>a.1) (fun a:Nat × (List Int) × Int=>[(0,.ar 5040),(9,.t (.sc (.int .i64 a.2.2)))]) (fun a:Nat × (List Int) × Int=>[(5040,.arr (a.2.1.map rI) 3 true)]) (fun a:Nat × (List Int) × Int=>a.1≤fu∧zX a.1 x2 x3 x4 a.2.1 a.2.2=some r∧0≤a.2.2) (fu,x1,0) ⟨Nat.le_refl _,F2,by simp⟩ (by rfl) (by rfl) (fun _=>rfl) (zZ (by conv=>lhs;whnf) (by rfl) (zZ (by conv=>lhs;whnf) (by rfl) zbP)) (zQ (by conv=>lhs;whnf) (by rfl) zbp) (zcP hC rfl) (by repeat (first | exact zah rfl | refine zaA rfl ?_ | refine zab rfl ?_)) (by repeat (first | exact za5 | exact zal rfl | refine zaB rfl ?_ | refine zac rfl ?_)) ?_
 clear F2
 rintro ⟨fu,g19,g20⟩ ⟨hl21,F3,hn_g20⟩
 dsimp only at hl21 F3 hn_g20 ⊢
 obtain _ | fu:=fu
 · rw [zX] at F3;cases F3
 rw [zX] at F3
 refine zb (zb (za ?_))
 refine s_mv ?_
 refine s_fa zJ ?_
 refine zq yA35 ?_
 refine zB yU35 ?_
 refine s_lt ?_
 refine zf (zd ?_)
 refine zn F3 ?_ ?_<;>intro C22 F4
 refine zH 20 (fun B23=>?_)
 refine zi (zd (zb (zl (zb (za ?_)))))
 refine s_mv ?_
 refine s_as ?_
 refine zf (zd (zb (zb (za ?_))))
 refine s_mv ?_
 refine zE (zaF C22 B23 hn_g20) ?_
 refine s_fa zJ ?_
 refine zq yA35 ?_
 refine zB yU35 ?_
 refine s_lt ?_
 refine s_mv ?_
 refine zx _ 32 F4 ?_ ?_<;>intro C24 F5
 refine s_fa zJ ?_
 refine zq yA35 ?_
 refine s_mv ?_
 refine zE (zaF C22 B23 hn_g20) ?_
 obtain ⟨v25,V25,F6⟩:=zc F5
 refine zN Form.row V25 (Form.row_eq _) yE35 ?_
 refine zaI yA37 yS37 ?_
 obtain ⟨v26,V26,F7⟩:=zc F6
 refine zy [] (zcG fu _ _ V26) ?_
 refine zC ?_
 refine zf (zd ?_)
 refine zn F7 ?_ ?_<;>intro C27 F8
 refine za ?_
 refine s_mv ?_
 refine zE rfl ?_
 refine s_as ?_
 refine zf (zd (za ?_))
 refine s_mv ?_
 refine s_fa zJ ?_
 refine zq yA35 ?_
 refine s_mv ?_
 obtain ⟨v28,V28,F9⟩:=zc F8
 refine zN Form.row V28 (Form.row_eq _) yE35 ?_
 refine zaI yA37 yS37 ?_
 refine s_mv ?_
 refine s_mv ?_
 obtain ⟨v29,V29,F10⟩:=zc F9
 refine zT [(9300,5040),(9200,12051)] [] _ _ (ih_m_spec_l4Depths fu (by omega) _ _ _ _ _ V29) ?_
 refine s_as ?_
 refine zf (zY (zd (za ?_)))
 refine s_mv ?_
 refine zE (zaF C22 B23 hn_g20) ?_
 refine s_as ?_
 refine zf ?_
 exact s_rn (fu,v29,(g20+1)) ⟨by first | omega | (dsimp only;omega),F10,by first | omega | (dsimp only;omega)⟩ [(5040,12051)]
 refine zi (zd (za ?_))
 refine s_mv ?_
 refine s_fa zJ ?_
 refine zq yA35 ?_
 refine s_mv ?_
 obtain ⟨v30,V30,F9⟩:=zc F8
 refine zN Form.row V30 (Form.row_eq _) yE35 ?_
 refine zaI yA37 yS37 ?_
 refine s_mv ?_
 refine s_mv ?_
 obtain ⟨v31,V31,F10⟩:=zc F9
 refine zT [(9300,5040),(9200,12051)] [] _ _ (ih_m_spec_l4Depths fu (by omega) _ _ _ _ _ V31) ?_
 refine s_as ?_
 refine zf (zY (zd (za ?_)))
 refine s_mv ?_
 refine zE (zaF C22 B23 hn_g20) ?_
 refine s_as ?_
 refine zf ?_
 exact s_rn (fu,v31,(g20+1)) ⟨by first | omega | (dsimp only;omega),F10,by first | omega | (dsimp only;omega)⟩ [(5040,12051)]
 iterate 7 refine r_no rfl ?_
 refine zD ?_
 refine zf (zd (zcC rfl (zi (zd (za ?_)))))
 refine s_mv ?_
 refine s_fa zJ ?_
 refine zq yA35 ?_
 refine s_mv ?_
 obtain ⟨v32,V32,F6⟩:=zc F5
 refine zN Form.row V32 (Form.row_eq _) yE35 ?_
 refine zaI yA37 yS37 ?_
 refine s_mv ?_
 refine s_mv ?_
 obtain ⟨v33,V33,F7⟩:=zc F6
 refine zT [(9300,5040),(9200,12051)] [] _ _ (ih_m_spec_l4Depths fu (by omega) _ _ _ _ _ V33) ?_
 refine s_as ?_
 refine zf (zY (zd (za ?_)))
 refine s_mv ?_
 refine zE (zaF C22 B23 hn_g20) ?_
 refine s_as ?_
 refine zf ?_
 exact s_rn (fu,v33,(g20+1)) ⟨by first | omega | (dsimp only;omega),F7,by first | omega | (dsimp only;omega)⟩ [(5040,12051)]
 refine zA (zr (zp (zu (zd (zb (za ?_))))))
 refine s_mv ?_
 refine s_as ?_
 refine zf (zd ?_)
 refine zeY 8 5040 9200 (by conv=>lhs;whnf) (by conv=>lhs;whnf) rfl ?_
 refine zh (zo ?_)
 cases F4
 exact zk _ [] Tryz.results85
theorem m_spec_l4Depths_all (fuel:Nat):zeh fuel:=by
 induction fuel using Nat.strongRecOn with
 | _ N ih =>
   cases N with
   | zero=>exact (by intro x1 x2 x3 x4 r h;rw [za0] at h;cases h)
   | succ fu=>exact m_spec_l4Depths_st fu (fun k hk=>(ih k (by omega)))
theorem zgK (fuel:Nat):zeh fuel:=(m_spec_l4Depths_all fuel)
def m_spec_l4Is_AC (fuel:Nat):Prop:=∀ (x1:Form) (x2:(List Form)) (r:Bool),zgr fuel x1 x2=some r→AC Tryz.prog 42 [.ag [.t (.sc (.int .i64 x1.kind)),.t (.sc (.str x1.name)),.t (.sc (.int .i64 x1.n)),.t (.sl (x1.scopes.map rI)),.t (.sl (x1.kids.map Form.row))],.t (.sl (x2.map Form.row))] noOb (.t (.sc (.bool r))) noOb
theorem m_spec_l4Is_ok (fuel:Nat):m_spec_l4Is_AC fuel:=by
 intro x1 x2 r F0
 unfold zgr at F0
 refine AC_i [.t (.sc (.bool r))] Tryz.func42 rfl Tryz.ntmps42 ?_
 intro C hC
 refine zb (za ?_)
 refine zbo ?_
 refine s_as ?_
 refine zf (zd (zb (zb (za ?_))))
 refine z6 yA37 yS37 ?_
 obtain ⟨v1,V1,F1⟩:=zc F0
 refine zy [] (zfc fuel _ _ V1) ?_
 refine zbh ?_
 refine s_mv ?_
 refine zx _ 12 F1 ?_ ?_<;>intro C2 F2
 iterate 3 refine r_no rfl ?_
 refine zC ?_
 refine s_mv ?_
 iterate 3 refine r_no rfl ?_
 refine zC ?_
 refine zf (zd (zaa rfl (zb (za ?_))))
 refine s_as ?_
 refine zf (zd (zh (zg (zo ?_))))
 cases F2
 exact zk [] [] Tryz.results42
 refine s_mv ?_
 obtain ⟨v3,V3,F3⟩:=zc F2
 refine zy [] (m_spec_l4Literals_ok fuel _ _ V3) ?_
 refine zbh ?_
 refine zD ?_
 refine s_mv ?_
 refine zx _ 17 F3 ?_ ?_<;>intro C4 F4
 iterate 3 refine r_no rfl ?_
 refine zC ?_
 refine zf (zd (zaa rfl (zb (za ?_))))
 refine s_as ?_
 refine zf (zd (zh (zg (zo ?_))))
 cases F4
 exact zk [] [] Tryz.results42
 refine z6 yA37 yS37 ?_
 obtain ⟨v5,V5,F5⟩:=zc F4
 refine zy [] (m_spec_l4Shape_ok fuel _ _ V5) ?_
 refine zbh ?_
 refine zD ?_
 refine zf (zd ?_)
 refine zn F5 ?_ ?_<;>intro C6 F6
 refine zb (za ?_)
 refine s_as ?_
 refine zf (zd (zh (zg (zo ?_))))
 cases F6
 exact zk [] [] Tryz.results42
 refine zi (zd (zb (za ?_)))
 refine s_bs Form.row ([]:List Form) yP35 yR37 ?_
 refine z6 yA37 yS37 ?_
 refine s_mv ?_
 obtain ⟨v7,V7,F7⟩:=zc F6
 refine zT [(9300,22),(9200,12025)] [] _ _ (m_spec_l4Vars_ok fuel _ _ _ _ V7) ?_
 refine s_as ?_
 refine zf (zd (zb (zb (za ?_))))
 refine s_as ?_
 refine zf (zd (zl ?_))
 refine awp_frz 12025 (by conv=>lhs;whnf) ?_
 refine zaE (β:=Int × (List Form)) [4,6,26,27,28,29,30,31,32,33,34,35,36,37,38,39] [12025] [] (fun a=>[(6,.t (.sc (.int .i64 a.2.1)))]) (fun a=>[(12025,.arr (a.2.2.map Form.row) 37 false)]) (fun a=>a.1≤fuel∧zcW a.1 x1 x2 a.2.1 a.2.2=some r∧0≤a.2.1) (fuel,0,v7) ⟨Nat.le_refl _,F7,by simp⟩ ?_
 clear F7
 rintro ⟨fu,g8,g9⟩ ⟨hl10,F8,hn_g8⟩
 dsimp only at hl10 F8 hn_g8 ⊢
 obtain _ | fu:=fu
 · rw [zcW] at F8;cases F8
 rw [zcW] at F8
 refine zb (zb (za ?_))
 refine s_mv ?_
 refine s_mv ?_
 refine s_lenA yU35 ?_
 refine s_lt ?_
 refine zf (zd ?_)
 refine zn F8 ?_ ?_<;>intro C11 F9
 refine awp_lenA 5 12025 (fun B12=>?_)
 refine zi (zd (zb (zl (zb ?_))))
 refine zP yMix (by kernel_rfl) ?_
 refine s_mv0 ?_
 refine s_mv ?_
 obtain ⟨v13,V13,F10⟩:=zc F9
 refine s_sl01 Form.row (fun y=>Form.row_len y) V13 yU35 yE35 ?_
 refine s_mv0 ?_
 refine s_mv ?_
 obtain ⟨v14,V14,F11⟩:=zc F10
 refine s_ixA Form.row V14 yE35 ?_
 refine s_lAN Form.row V14 (Form.row_eq _) yA37 yS37 ?_
 obtain ⟨v15,V15,F12⟩:=zc F11
 refine zy [] (zfV fu _ _ _ V15) ?_
 refine zai (by kernel_rfl) ?_
 refine zd ?_
 refine zn F12 ?_ ?_<;>intro C16 F13
 refine zb (za ?_)
 refine s_as ?_
 refine zf (zd (zh (zj (zg (zv (zj (zg (zo ?_))))))))
 cases F13
 exact zk [] [] Tryz.results42
 refine zi (zY (zd (za ?_)))
 refine s_mv ?_
 refine zE (zaF C11 B12 hn_g8) ?_
 refine s_as ?_
 refine zf ?_
 exact s_rn (fu,(g8+1),g9) ⟨by first | omega | (dsimp only;omega),F13,by first | omega | (dsimp only;omega)⟩
 refine zA (zr (zp (zu (zd (zb (za ?_))))))
 refine s_bs rI ([]:List Int) yP23 yR3 ?_
 refine z6 yA37 yS37 ?_
 refine s_mv ?_
 obtain ⟨v17,V17,F10⟩:=zc F9
 refine zT [(9300,40),(9200,12043)] [] _ _ (zgK fu _ _ _ _ _ V17) ?_
 refine s_as ?_
 refine zf (zd (zb (zb (za ?_))))
 refine s_as ?_
 refine zf (zd (zl ?_))
 refine zaE (β:=Int) [4,8,44,45,46,47,48,49,50,51,52,53,54] [] [] (fun a=>[(8,.t (.sc (.int .i64 a.2)))]) (fun a=>[]) (fun a=>a.1≤fu∧zcV a.1 g9 v17 a.2=some r∧0≤a.2) (fu,0) ⟨Nat.le_refl _,F10,by simp⟩ ?_
 clear F10
 rintro ⟨fu,g18⟩ ⟨hl19,F11,hn_g18⟩
 dsimp only at hl19 F11 hn_g18 ⊢
 obtain _ | fu:=fu
 · rw [zcV] at F11;cases F11
 rw [zcV] at F11
 refine zb (zb (za ?_))
 refine s_mv ?_
 refine s_mv ?_
 refine s_lenA yU23 ?_
 refine s_lt ?_
 refine zf (zd ?_)
 refine zn F11 ?_ ?_<;>intro C20 F12
 refine awp_lenA 7 12043 (fun B21=>?_)
 refine zi (zd (zb (zl (zb (za ?_)))))
 refine s_mv ?_
 refine s_mv ?_
 obtain ⟨v22,V22,F13⟩:=zc F12
 refine s_ixA rI V22 yE23 ?_
 refine s_lA1 rI V22 rfl yA3 ?_
 refine s_gt ?_
 refine zf (zd ?_)
 refine zn F13 ?_ ?_<;>intro C23 F14
 refine zb (za ?_)
 refine s_as ?_
 refine zf (zd (zh (zj (zg (zv (zj (zg (zo ?_))))))))
 cases F14
 exact zk [] [] Tryz.results42
 refine zi (zY (zd (za ?_)))
 refine s_mv ?_
 refine zE (zaF C20 B21 hn_g18) ?_
 refine s_as ?_
 refine zf ?_
 exact s_rn (fu,(g18+1)) ⟨by first | omega | (dsimp only;omega),F14,by first | omega | (dsimp only;omega)⟩
 refine zA (zr (zp (zu (zd (zb (za ?_))))))
 refine s_mv ?_
 refine s_lenA yU35 ?_
 refine s_le ?_
 refine s_as ?_
 refine zf (zd (zh (zo ?_)))
 cases F12
 exact zk [] [] Tryz.results42
def m_spec_l2Has_AC (fuel:Nat):Prop:=∀ (x1:(List Int)) (x2:Int) (r:Bool),zfl fuel x1 x2=some r→AC Tryz.prog 169 [.t (.sl (x1.map rI)),.t (.sc (.int .i64 x2))] noOb (.t (.sc (.bool r))) noOb
theorem m_spec_l2Has_ok (fuel:Nat):m_spec_l2Has_AC fuel:=by
 intro x1 x2 r F0
 unfold zfl at F0
 refine AC_i [.t (.sc (.bool r))] Tryz.func169 rfl Tryz.ntmps169 ?_
 intro C hC
 refine zb (za ?_)
 refine s_as ?_
 refine zf (zd (zb (zb (za ?_))))
 refine s_as ?_
 refine zf (zd (zl ?_))
 refine zaE (β:=Int) [4,5,6,7,8,9,10,11,12,13,14,15,16,17] [] [] (fun a=>[(5,.t (.sc (.int .i64 a.2)))]) (fun a=>[]) (fun a=>a.1≤fuel∧zc0 a.1 x1 x2 a.2=some r∧0≤a.2) (fuel,0) ⟨Nat.le_refl _,F0,by simp⟩ ?_
 clear F0
 rintro ⟨fu,g1⟩ ⟨hl2,F1,hn_g1⟩
 dsimp only at hl2 F1 hn_g1 ⊢
 obtain _ | fu:=fu
 · rw [zc0] at F1;cases F1
 rw [zc0] at F1
 refine zb (zb (za ?_))
 refine s_mv ?_
 refine s_mv ?_
 refine zB yU23 ?_
 refine s_lt ?_
 refine zf (zd ?_)
 refine zn F1 ?_ ?_<;>intro C3 F2
 refine zH 0 (fun B4=>?_)
 refine zi (zd (zb (zl (zb (za ?_)))))
 refine s_mv ?_
 refine s_mv ?_
 obtain ⟨v5,V5,F3⟩:=zc F2
 refine zN rI V5 rfl yE23 ?_
 refine zq yA3 ?_
 refine s_mv ?_
 refine s_eq ?_
 refine zf (zd ?_)
 refine zn F3 ?_ ?_<;>intro C6 F4
 refine zb (za ?_)
 refine s_as ?_
 refine zf (zd (zh (zj (zg (zv (zj (zg (zo ?_))))))))
 cases F4
 exact zk [] [] Tryz.results169
 refine zi (zY (zd (za ?_)))
 refine s_mv ?_
 refine zE (zaF C3 B4 hn_g1) ?_
 refine s_as ?_
 refine zf ?_
 exact s_rn (fu,(g1+1)) ⟨by first | omega | (dsimp only;omega),F4,by first | omega | (dsimp only;omega)⟩
 refine zA (zr (zp (zu (zd (zb (za ?_))))))
 refine s_as ?_
 refine zf (zd (zh (zo ?_)))
 cases F2
 exact zk [] [] Tryz.results169
def m_spec_ScopesWithin_AC (fuel:Nat):Prop:=∀ (x1:(List Int)) (x2:(List Int)) (r:Bool),zcl fuel x1 x2=some r→AC Tryz.prog 157 [.t (.sl (x1.map rI)),.t (.sl (x2.map rI))] noOb (.t (.sc (.bool r))) noOb
theorem zfI (fuel:Nat):m_spec_ScopesWithin_AC fuel:=by
 intro x1 x2 r F0
 unfold zcl at F0
 refine AC_i [.t (.sc (.bool r))] Tryz.func157 rfl Tryz.ntmps157 ?_
 intro C hC
 refine zb (za ?_)
 refine s_as ?_
 refine zf (zd (zb (zb (za ?_))))
 refine s_as ?_
 refine zf (zd (zl ?_))
 refine zaE (β:=Int) [4,5,6,7,8,9,10,11,12,13,14,15,16,17,18] [] [] (fun a=>[(5,.t (.sc (.int .i64 a.2)))]) (fun a=>[]) (fun a=>a.1≤fuel∧zbg a.1 x1 x2 a.2=some r∧0≤a.2) (fuel,0) ⟨Nat.le_refl _,F0,by simp⟩ ?_
 clear F0
 rintro ⟨fu,g1⟩ ⟨hl2,F1,hn_g1⟩
 dsimp only at hl2 F1 hn_g1 ⊢
 obtain _ | fu:=fu
 · rw [zbg] at F1;cases F1
 rw [zbg] at F1
 refine zb (zb (za ?_))
 refine s_mv ?_
 refine s_mv ?_
 refine zB yU23 ?_
 refine s_lt ?_
 refine zf (zd ?_)
 refine zn F1 ?_ ?_<;>intro C3 F2
 refine zH 0 (fun B4=>?_)
 refine zi (zd (zb (zl (zb (za ?_)))))
 iterate 3 refine s_mv ?_
 obtain ⟨v5,V5,F3⟩:=zc F2
 refine zN rI V5 rfl yE23 ?_
 refine zq yA3 ?_
 obtain ⟨v6,V6,F4⟩:=zc F3
 refine zy [] (m_spec_l2Has_ok fu _ _ _ V6) ?_
 refine zbh ?_
 refine zf (zd ?_)
 refine zn F4 ?_ ?_<;>intro C7 F5
 refine zb (za ?_)
 refine s_as ?_
 refine zf (zd (zh (zj (zg (zv (zj (zg (zo ?_))))))))
 cases F5
 exact zk [] [] Tryz.results157
 refine zi (zY (zd (za ?_)))
 refine s_mv ?_
 refine zE (zaF C3 B4 hn_g1) ?_
 refine s_as ?_
 refine zf ?_
 exact s_rn (fu,(g1+1)) ⟨by first | omega | (dsimp only;omega),F5,by first | omega | (dsimp only;omega)⟩
 refine zA (zr (zp (zu (zd (zb (za ?_))))))
 refine s_as ?_
 refine zf (zd (zh (zo ?_)))
 cases F2
 exact zk [] [] Tryz.results157
def m_spec_l3Fitting_AC (fuel:Nat):Prop:=∀ (x1:(List Bind)) (x2:Form) (r:(List Int)),zd5 fuel x1 x2=some r→AC Tryz.prog 156 [.t (.sl (x1.map Bind.row)),.ag [.t (.sc (.int .i64 x2.kind)),.t (.sc (.str x2.name)),.t (.sc (.int .i64 x2.n)),.t (.sl (x2.scopes.map rI)),.t (.sl (x2.kids.map Form.row))]] noOb (.t (.sl (r.map rI))) noOb
theorem m_spec_l3Fitting_ok (fuel:Nat):m_spec_l3Fitting_AC fuel:=by
 intro x1 x2 r F0
 unfold zd5 at F0
 refine AC_i [.t (.sl (r.map rI))] Tryz.func156 rfl Tryz.ntmps156 ?_
 intro C hC
 refine zb (za ?_)
 refine zbo ?_
 refine s_as ?_
 refine zf (zd (zb (za ?_)))
 refine s_bs rI ([]:List Int) yP23 yR3 ?_
 refine s_as ?_
 refine zf (zd (zb (zb (za ?_))))
 refine s_as ?_
 refine zf (zd (zl ?_))
 refine zeY 5 7 5020 (by conv=>lhs;whnf) (by conv=>lhs;whnf) rfl ?_
 refine zap [5,6,8,9,10,11,12,13,14,15,16,17,18,19,20,21,22,23,24,25,26,27,28,29,30,31,32,33,34,35] [5020] [34,35] [5020] (fun a:Nat × (List Int) × Int=>a.1) (fun a:Nat × (List Int) × Int=>[(5,.ar 5020),(6,.t (.sc (.int .i64 a.2.2)))]) (fun a:Nat × (List Int) × Int=>[(5020,.arr (a.2.1.map rI) 3 true)]) (fun a:Nat × (List Int) × Int=>a.1≤fuel∧zaV a.1 x1 x2 a.2.1 a.2.2=some r∧0≤a.2.2) (fuel,([]:List Int),0) ⟨Nat.le_refl _,F0,by simp⟩ (by rfl) (by rfl) (fun _=>rfl) (zZ (by conv=>lhs;whnf) (by rfl) (zZ (by conv=>lhs;whnf) (by rfl) zbP)) (zQ (by conv=>lhs;whnf) (by rfl) zbp) (zcP hC rfl) (by repeat (first | exact zah rfl | refine zaA rfl ?_ | refine zab rfl ?_)) (by repeat (first | exact za5 | exact zal rfl | refine zaB rfl ?_ | refine zac rfl ?_)) ?_
 clear F0
 rintro ⟨fu,g1,g2⟩ ⟨hl3,F1,hn_g2⟩
 dsimp only at hl3 F1 hn_g2 ⊢
 obtain _ | fu:=fu
 · rw [zaV] at F1;cases F1
 rw [zaV] at F1
 refine zb (zb (za ?_))
 refine s_mv ?_
 refine s_mv ?_
 refine zB yU33 ?_
 refine s_lt ?_
 refine zf (zd ?_)
 refine zn F1 ?_ ?_<;>intro C4 F2
 refine zH 0 (fun B5=>?_)
 refine zi (zd (zb (zl ?_)))
 refine zdr (α:=Nat × Bool) [14,15,16,17,18,19,20,21,22,23,24,25,26,27,28,29,30,31] [] [] (fun a=>[(31,.t (.sc (.bool a.2)))]) (fun a=>[]) (fun a=>a.1≤fu∧zbZ a.1 x1 x2 g1 g2 a.2=some r) ?_ ?_
 refine zP yMix (by kernel_rfl) ?_
 refine s_mv ?_
 refine s_mv ?_
 obtain ⟨v6,V6,F3⟩:=zc F2
 refine zN Bind.row V6 (Bind.row_eq _) yE33 ?_
 refine s_fa zgX ?_
 refine zq yA9 ?_
 refine s_fa zbC ?_
 refine zq yA9 ?_
 refine zgj ?_
 refine s_mv ?_
 refine zx _ 22 F3 ?_ ?_<;>intro C7 F4
 refine s_mv ?_
 refine s_mv ?_
 obtain ⟨v8,V8,F5⟩:=zc F4
 refine zN Bind.row V8 (Bind.row_eq _) yE33 ?_
 refine s_fa zfY ?_
 refine zq yA23 ?_
 refine s_fa zdR ?_
 refine zq yA23 ?_
 obtain ⟨v9,V9,F6⟩:=zc F5
 refine zy [] (zfI fu _ _ _ V9) ?_
 refine zC ?_
 refine zai (by kernel_rfl) ?_
 exact s_jn (fu,v9) ⟨by first | omega | (dsimp only;omega),F6⟩
 iterate 8 refine r_no rfl ?_
 refine zD ?_
 refine zai (by kernel_rfl) ?_
 exact s_jn (fu,false) ⟨by first | omega | (dsimp only;omega),F4⟩
 clear F2
 rintro ⟨fu,g10⟩ ⟨hl11,F3⟩
 dsimp only at hl11 F3 ⊢
 obtain _ | fu:=fu
 · rw [zbZ] at F3;cases F3
 rw [zbZ] at F3
 refine zn F3 ?_ ?_<;>intro C12 F4
 refine za ?_
 refine s_mv ?_
 refine s_mv ?_
 refine s_bs rI [g2] yP23 yR3 ?_
 obtain ⟨hk13,F5⟩:=zat F4
 refine zgC rI (fun _=>rfl) hk13 yP23 ?_
 refine s_as ?_
 refine zf (zY (zd (za ?_)))
 refine s_mv ?_
 refine zE (zaF C4 B5 hn_g2) ?_
 refine s_as ?_
 refine zf ?_
 exact s_rn (fu,(g1++[g2]),(g2+1)) ⟨by first | omega | (dsimp only;omega),F5,by first | omega | (dsimp only;omega)⟩ [(5020,35)]
 refine zi (zY (zd (za ?_)))
 refine s_mv ?_
 refine zE (zaF C4 B5 hn_g2) ?_
 refine s_as ?_
 refine zf ?_
 exact s_rn (fu,g1,(g2+1)) ⟨by first | omega | (dsimp only;omega),F4,by first | omega | (dsimp only;omega)⟩
 refine zA (zr (zp (zu (zd (zb (za ?_))))))
 refine s_mv ?_
 refine s_as ?_
 refine zf (zd (zh (zo ?_)))
 cases F2
 exact zk [] [5020] Tryz.results156
def m_spec_l3Find_AC (fuel:Nat):Prop:=∀ (x1:(List Bind)) (x2:Form) (r:(Int × Int)),zeD fuel x1 x2=some r→AC Tryz.prog 128 [.t (.sl (x1.map Bind.row)),.ag [.t (.sc (.int .i64 x2.kind)),.t (.sc (.str x2.name)),.t (.sc (.int .i64 x2.n)),.t (.sl (x2.scopes.map rI)),.t (.sl (x2.kids.map Form.row))]] noOb (.tp [.t (.sc (.int .i64 r.1)),.t (.sc (.int .i64 r.2))]) noOb
theorem m_spec_l3Find_ok (fuel:Nat):m_spec_l3Find_AC fuel:=by
 intro x1 x2 r F0
 unfold zeD at F0
 refine AC_i [.t (.sc (.int .i64 r.1)),.t (.sc (.int .i64 r.2))] Tryz.func128 rfl Tryz.ntmps128 ?_
 intro C hC
 refine zb (za ?_)
 refine zbo ?_
 refine s_as ?_
 refine s_as ?_
 refine zf (zd (zb (za ?_)))
 refine s_mv ?_
 refine z6 yA37 yS37 ?_
 obtain ⟨v1,V1,F1⟩:=zc F0
 refine zy [] (m_spec_l3Fitting_ok fuel _ _ _ V1) ?_
 refine s_as ?_
 refine zf (zd (zb (zb (za ?_))))
 refine s_as ?_
 refine zf (zd (zl ?_))
 refine zaE (β:=Int) [4,5,7,8,9,13,14,15,16,17,18,19,20,21,22,23,24,25,26,27,28,29,30,31,32,33,34,35,36,37,38,39,40,41,42,43,44,45,46,47,48,49] [] [] (fun a=>[(7,.t (.sc (.int .i64 a.2)))]) (fun a=>[]) (fun a=>a.1≤fuel∧zce a.1 x1 v1 a.2=some r∧0≤a.2) (fuel,0) ⟨Nat.le_refl _,F1,by simp⟩ ?_
 clear F1
 rintro ⟨fu,g2⟩ ⟨hl3,F2,hn_g2⟩
 dsimp only at hl3 F2 hn_g2 ⊢
 obtain _ | fu:=fu
 · rw [zce] at F2;cases F2
 rw [zce] at F2
 refine zb (zb (za ?_))
 refine s_mv ?_
 refine s_mv ?_
 refine zB yU23 ?_
 refine s_lt ?_
 refine zf (zd ?_)
 refine zn F2 ?_ ?_<;>intro C4 F3
 refine zH 6 (fun B5=>?_)
 refine zi (zd (zb (zl (zb (za ?_)))))
 refine s_as ?_
 refine zf (zd ?_)
 refine zdr (α:=Nat × Bool) [8,9,19,20,21,22,23,24,25,26,27,28,29,30,31,32,33,34,35,36,37,38,39,40,41,42,43,44] [] [] (fun a=>[(8,.t (.sc (.bool a.2)))]) (fun a=>[]) (fun a=>a.1≤fu∧zc8 a.1 x1 v1 g2 a.2=some r) ?_ ?_
 refine zb (za ?_)
 refine s_as ?_
 refine zf (zd (zl ?_))
 refine zaE (β:=Bool × Int) [8,9,19,20,21,22,23,24,25,26,27,28,29,30,31,32,33,34,35,36,37,38,39,40,41,42,43,44] [] [] (fun a=>[(8,.t (.sc (.bool a.2.1))),(9,.t (.sc (.int .i64 a.2.2)))]) (fun a=>[]) (fun a=>a.1≤fu∧zcd a.1 x1 v1 g2 a.2.1 a.2.2=some r∧0≤a.2.2) (fu,true,0) ⟨Nat.le_refl _,F3,by simp⟩ ?_
 clear F3
 rintro ⟨fu,g6,g7⟩ ⟨hl8,F4,hn_g7⟩
 dsimp only at hl8 F4 hn_g7 ⊢
 obtain _ | fu:=fu
 · rw [zcd] at F4;cases F4
 rw [zcd] at F4
 refine zb (zb (za ?_))
 refine s_mv ?_
 refine s_mv ?_
 refine zB yU23 ?_
 refine s_lt ?_
 refine zf (zd ?_)
 refine zn F4 ?_ ?_<;>intro C9 F5
 refine zi (zd ?_)
 refine zdr (α:=Nat × Bool) [8,25,26,27,28,29,30,31,32,33,34,35,36,37,38,39,40,41,42,43,44] [] [] (fun a=>[(8,.t (.sc (.bool a.2)))]) (fun a=>[]) (fun a=>a.1≤fu∧zcJ a.1 x1 v1 g2 g7 a.2=some r) ?_ ?_
 refine zl ?_
 refine zP yMix (by kernel_rfl) ?_
 refine s_mv ?_
 refine s_mv ?_
 refine zx _ 26 F5 ?_ ?_<;>intro C10 F6
 iterate 3 refine s_mv ?_
 obtain ⟨v11,V11,F7⟩:=zc F6
 refine zN rI V11 rfl yE23 ?_
 refine zq yA3 ?_
 obtain ⟨v12,V12,F8⟩:=zc F7
 refine zN Bind.row V12 (Bind.row_eq _) yE33 ?_
 refine s_fa zfY ?_
 refine zq yA23 ?_
 iterate 3 refine s_mv ?_
 obtain ⟨v13,V13,F9⟩:=zc F8
 refine zN rI V13 rfl yE23 ?_
 refine zq yA3 ?_
 obtain ⟨v14,V14,F10⟩:=zc F9
 refine zN Bind.row V14 (Bind.row_eq _) yE33 ?_
 refine s_fa zfY ?_
 refine zq yA23 ?_
 obtain ⟨v15,V15,F11⟩:=zc F10
 refine zy [] (zfI fu _ _ _ V15) ?_
 refine zC ?_
 refine s_as ?_
 refine zai (by kernel_rfl) ?_
 refine zY ?_
 exact s_jn (fu,v15) ⟨by first | omega | (dsimp only;omega),F11⟩
 iterate 17 refine r_no rfl ?_
 refine zD ?_
 refine s_as ?_
 refine zai (by kernel_rfl) ?_
 refine zY ?_
 exact s_jn (fu,false) ⟨by first | omega | (dsimp only;omega),F6⟩
 clear F5
 rintro ⟨fu,g16⟩ ⟨hl17,F6⟩
 dsimp only at hl17 F6 ⊢
 obtain _ | fu:=fu
 · rw [zcJ] at F6;cases F6
 rw [zcJ] at F6
 refine za ?_
 refine s_mv ?_
 refine zE (zaF C9 B5 hn_g7) ?_
 refine s_as ?_
 refine zf ?_
 exact s_rn (fu,g16,(g7+1)) ⟨by first | omega | (dsimp only;omega),F6,by first | omega | (dsimp only;omega)⟩
 refine zA (zr (zp (zu ?_)))
 exact s_jn (fu,g6) ⟨by first | omega | (dsimp only;omega),F5⟩
 clear F3
 rintro ⟨fu,g18⟩ ⟨hl19,F4⟩
 dsimp only at hl19 F4 ⊢
 obtain _ | fu:=fu
 · rw [zc8] at F4;cases F4
 rw [zc8] at F4
 refine zb (za ?_)
 refine s_mv ?_
 refine zf (zd ?_)
 refine zn F4 ?_ ?_<;>intro C20 F5
 refine zb (za ?_)
 refine s_mv ?_
 refine s_mv ?_
 obtain ⟨v21,V21,F6⟩:=zc F5
 refine zN rI V21 rfl yE23 ?_
 refine zq yA3 ?_
 refine s_as ?_
 refine s_as ?_
 refine zf (zd (zh (zj (zg (zv (zj (zg (zo ?_))))))))
 cases F6
 exact zk [] [] Tryz.results128
 refine zi (zY (zd (za ?_)))
 refine s_mv ?_
 refine zE (zaF C4 B5 hn_g2) ?_
 refine s_as ?_
 refine zf ?_
 exact s_rn (fu,(g2+1)) ⟨by first | omega | (dsimp only;omega),F5,by first | omega | (dsimp only;omega)⟩
 refine zA (zr (zp (zu (zd (zb (zb (za ?_)))))))
 refine s_mv ?_
 refine zB yU23 ?_
 refine s_gt ?_
 refine zf (zd ?_)
 refine zn F3 ?_ ?_<;>intro C22 F4
 refine zH 6 (fun B23=>?_)
 refine zb (za ?_)
 refine s_as ?_
 refine s_as ?_
 refine zf (zd (zh (zg (zo ?_))))
 cases F4
 exact zk [] [] Tryz.results128
 refine zi (zd (zb (za ?_)))
 refine s_as ?_
 refine s_as ?_
 refine zf (zd (zh (zo ?_)))
 cases F4
 exact zk [] [] Tryz.results128
end Go.Abs
