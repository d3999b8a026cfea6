/- A part of the proof: what the functions that the law calls answer, as pure values. -/
import Derived.Test.YtcebadpiebamdaaGreatK006dda84d553
import Derived.Test.YtcebadpiebamdaaGreatK863b9396a6d1
import Derived.Test.YtcebadpiebamdaaGreatK9fbfde43654d
import Derived.Test.YtcebadpiebamdaaGreatK0c09c3f6594f
set_option linter.unusedSimpArgs false
set_option linter.unusedVariables false
set_option maxRecDepth 100000
set_option maxHeartbeats 4000000
namespace Go.Abs
open Go.Proofs
theorem m_impl_dotsOk_all (fuel:Nat):ze8 fuel:=by
 induction fuel using Nat.strongRecOn with
 | _ N ih =>
   cases N with
   | zero=>exact (by intro x1 x2 r h;rw [zdp] at h;cases h)
   | succ fu=>exact m_impl_dotsOk_st fu (fun k hk=>(ih k (by omega)))
theorem m_impl_dotsOk_ok (fuel:Nat):ze8 fuel:=(m_impl_dotsOk_all fuel)
def m_impl_isVar_AC (fuel:Nat):Prop:=∀ (x1:Form) (x2:(List Form)) (r:Bool),zf3 fuel x1 x2=some r→AC Tryz.prog 159 [.ag [.t (.sc (.int .i64 x1.kind)),.t (.sc (.str x1.name)),.t (.sc (.int .i64 x1.n)),.t (.sl (x1.scopes.map rI)),.t (.sl (x1.kids.map Form.row))],.t (.sl (x2.map Form.row))] noOb (.t (.sc (.bool r))) noOb
theorem m_impl_isVar_ok (fuel:Nat):m_impl_isVar_AC fuel:=by
 intro x1 x2 r F0
 unfold zf3 at F0
 refine AC_i [.t (.sc (.bool r))] Tryz.func159 rfl Tryz.ntmps159 ?_
 intro C hC
 refine zb (za ?_)
 refine zbo ?_
 refine s_as ?_
 refine zf (zd (zb (za ?_)))
 refine s_fa zcD ?_
 refine zq yA3 ?_
 refine s_eq ?_
 refine s_mv ?_
 refine zx _ 8 F0 ?_ ?_<;>intro C1 F1
 refine s_fa zbC ?_
 refine zq yA9 ?_
 refine s_neS ?_
 refine zC ?_
 refine s_mv ?_
 refine zx _ 13 F1 ?_ ?_<;>intro C2 F2
 refine s_fa zbC ?_
 refine zq yA9 ?_
 refine s_neS ?_
 refine zC ?_
 refine s_mv ?_
 refine zx _ 18 F2 ?_ ?_<;>intro C3 F3
 refine s_mv ?_
 refine z6 yA37 yS37 ?_
 obtain ⟨v4,V4,F4⟩:=zc F3
 refine zy [] (zeV fuel _ _ _ V4) ?_
 refine zbh ?_
 refine zC ?_
 refine s_as ?_
 refine zf (zd (zh (zo ?_)))
 cases F4
 exact zk [] [] Tryz.results159
 iterate 4 refine r_no rfl ?_
 refine zD ?_
 refine s_as ?_
 refine zf (zd (zh (zo ?_)))
 cases F3
 exact zk [] [] Tryz.results159
 iterate 3 refine r_no rfl ?_
 refine zD ?_
 refine s_mv ?_
 iterate 4 refine r_no rfl ?_
 refine zD ?_
 refine s_as ?_
 refine zf (zd (zh (zo ?_)))
 cases F2
 exact zk [] [] Tryz.results159
 iterate 3 refine r_no rfl ?_
 refine zD ?_
 refine s_mv ?_
 iterate 3 refine r_no rfl ?_
 refine zD ?_
 refine s_mv ?_
 iterate 4 refine r_no rfl ?_
 refine zD ?_
 refine s_as ?_
 refine zf (zd (zh (zo ?_)))
 cases F1
 exact zk [] [] Tryz.results159
def zdm (fuel:Nat):Prop:=∀ (x1:Form) (x2:(List Form)) (x3:Int) (o1:(List Form)) (o2:(List Int)) (r:((List Form) × (List Int))),zaT fuel x1 x2 x3 o1 o2=some r→AC Tryz.prog 133 [.ag [.t (.sc (.int .i64 x1.kind)),.t (.sc (.str x1.name)),.t (.sc (.int .i64 x1.n)),.t (.sl (x1.scopes.map rI)),.t (.sl (x1.kids.map Form.row))],.t (.sl (x2.map Form.row)),.t (.sc (.int .i64 x3)),.rf 9000 0,.rf 9001 0] (objs [(9000,.box [.ar 9420]),(9420,.arr (o1.map Form.row) 37 true),(9001,.box [.ar 9440]),(9440,.arr (o2.map rI) 3 true)]) (.tp []) (objs [(9000,.box [.ar 10420]),(9420,.dead),(9001,.box [.ar 10440]),(9440,.dead),(10420,.arr (r.1.map Form.row) 37 true),(10440,.arr (r.2.map rI) 3 true)])
theorem m_impl_patternVars_st (fu:Nat) (ih_m_impl_patternVars:∀ k,k≤fu→zdm k):zdm (fu+1):=by
 intro x1 x2 x3 o1 o2 r F0
 rw [zaT] at F0
 refine AC_i [] Tryz.func133 rfl Tryz.ntmps133 ?_
 intro C hC
 refine zb (za ?_)
 refine zbo ?_
 refine zf (zd (zb (zb (za ?_))))
 refine z6 yA37 yS37 ?_
 refine s_mv ?_
 obtain ⟨v1,V1,F1⟩:=zc F0
 refine zy [] (m_impl_isVar_ok fu _ _ _ V1) ?_
 refine zf (zd ?_)
 refine zn F1 ?_ ?_<;>intro C2 F2
 refine zb ?_
 refine zP yMix (by kernel_rfl) ?_
 refine s_mv0 ?_
 refine s_nc ?_
 refine zq yA35 ?_
 refine z6 yA37 yS37 ?_
 refine s_lenA yU35 ?_
 refine s_bs Form.row [(Form.mk 0 (⟨#[]⟩:ByteArray) 0 ([]:List Int) ([]:List Form))] yP35 yR37 ?_
 obtain ⟨hk3,F3⟩:=zat F2
 refine zgC Form.row (fun y=>Form.row_len y) hk3 yP35 ?_
 obtain ⟨v4,V4,F4⟩:=zc F3
 refine s_ixA Form.row V4 yE35 ?_
 refine s_stA Form.row x1 V4 (Form.row_eq _) (Form.row_eq _) yS37 yS37 ?_
 refine s_nc ?_
 refine zde yS35 ?_
 refine zai (by kernel_rfl) ?_
 refine zd (za ?_)
 refine s_mv ?_
 refine s_mv ?_
 refine s_nc ?_
 refine zq yA23 ?_
 refine s_mv ?_
 refine s_bs rI [x3] yP23 yR3 ?_
 obtain ⟨hk5,F5⟩:=zat F4
 refine zgC rI (fun _=>rfl) hk5 yP23 ?_
 refine s_nc ?_
 refine zde yS23 ?_
 refine zf (zd (zb (za ?_)))
 refine s_fa zJ ?_
 refine zq yA35 ?_
 refine zB yU35 ?_
 refine s_mv ?_
 refine zf (zd (zl ?_))
 refine zez 9000 22 5020 [.ar 5020] ?_
 refine zez 9001 31 5021 [.ar 5021] ?_
 refine zap [10,11,12,36,37,38,39,40,41,42,43,44,45,46,47,48,49,50,51,52,53,54,55,56,57,58,59,60,61,62,63,64,65] [5020,5021,9000,9001] [11,42064,52064] [5020,5021] (fun a:Nat × Int × (List Form) × (List Int)=>a.1) (fun a:Nat × Int × (List Form) × (List Int)=>[(36,.t (.sc (.int .i64 a.2.1)))]) (fun a:Nat × Int × (List Form) × (List Int)=>[(5020,.arr (a.2.2.1.map Form.row) 37 true),(5021,.arr (a.2.2.2.map rI) 3 true),(9000,.box [.ar 5020]),(9001,.box [.ar 5021])]) (fun a:Nat × Int × (List Form) × (List Int)=>a.1≤fu∧zI a.1 x1 x2 x3 a.2.1 a.2.2.1 a.2.2.2=some r∧0≤a.2.1) (fu,0,((o1++[(Form.mk 0 (⟨#[]⟩:ByteArray) 0 ([]:List Int) ([]:List Form))]).set (o1.length:Int).toNat x1),(o2++[x3])) ⟨Nat.le_refl _,F5,by simp⟩ (by rfl) (by rfl) (fun _=>rfl) (zZ (by conv=>lhs;whnf) (by rfl) zbP) (zQ (by conv=>lhs;whnf) (by rfl) (zQ (by conv=>lhs;whnf) (by rfl) (zQ (by conv=>lhs;whnf) (by rfl) (zQ (by conv=>lhs;whnf) (by rfl) zbp)))) (zcP hC rfl) (by repeat (first | exact zah rfl | refine zaA rfl ?_ | refine zab rfl ?_)) (by repeat (first | exact za5 | exact zal rfl | refine zaB rfl ?_ | refine zac rfl ?_)) ?_
 clear F5
 rintro ⟨fu,g6,g7,g8⟩ ⟨hl9,F6,hn_g6⟩
 dsimp only at hl9 F6 hn_g6 ⊢
 obtain _ | fu:=fu
 · rw [zI] at F6;cases F6
 rw [zI] at F6
 refine zb (za ?_)
 refine s_lt ?_
 refine zf (zd (zb ?_))
 refine zn F6 ?_ ?_<;>intro C10 F7
 refine zH 34 (fun B11=>?_)
 refine zi (zd (zb (zl (zb (za ?_)))))
 refine s_mv ?_
 obtain ⟨v12,V12,F8⟩:=zc F7
 refine zN Form.row V12 (Form.row_eq _) yE35 ?_
 refine zaI yA37 yS37 ?_
 refine zaN yZ37 ?_
 refine s_as ?_
 refine zde yS37 ?_
 refine zf (zd (zb (za ?_)))
 refine s_mv ?_
 refine s_as ?_
 refine zf (zd (zb (zb (za ?_))))
 refine s_mv ?_
 refine zE (zaF C10 B11 hn_g6) ?_
 refine s_fa zJ ?_
 refine zq yA35 ?_
 refine zB yU35 ?_
 refine s_lt ?_
 refine s_mv ?_
 refine zx _ 48 F8 ?_ ?_<;>intro C13 F9
 refine s_fa zJ ?_
 refine zq yA35 ?_
 refine s_mv ?_
 refine zE (zaF C10 B11 hn_g6) ?_
 obtain ⟨v14,V14,F10⟩:=zc F9
 refine zN Form.row V14 (Form.row_eq _) yE35 ?_
 refine zaI yA37 yS37 ?_
 obtain ⟨v15,V15,F11⟩:=zc F10
 refine zy [] (zdK fu _ _ _ V15) ?_
 refine zC ?_
 refine zf (zd ?_)
 refine zn F11 ?_ ?_<;>intro C16 F12
 refine za ?_
 refine s_mv ?_
 refine zE rfl ?_
 refine s_as ?_
 refine zf (zd (za ?_))
 refine z6 yA37 yS37 ?_
 iterate 4 refine s_mv ?_
 obtain ⟨v17,V17,F13⟩:=zc F12
 refine zT [(9000,9000),(9001,9001),(9420,5020),(9440,5021),(10420,42064),(10440,52064)] [] _ _ (ih_m_impl_patternVars fu (by omega) _ _ _ _ _ _ V17) ?_
 refine zf (zY (zd (za ?_)))
 refine zE (zaF C10 B11 hn_g6) ?_
 refine s_mv ?_
 refine zf ?_
 exact s_rn (fu,(g6+1),v17.1,v17.2) ⟨by first | omega | (dsimp only;omega),F13,by first | omega | (dsimp only;omega)⟩ [(5020,42064),(5021,52064)]
 refine zi (zd (za ?_))
 refine z6 yA37 yS37 ?_
 iterate 4 refine s_mv ?_
 obtain ⟨v18,V18,F13⟩:=zc F12
 refine zT [(9000,9000),(9001,9001),(9420,5020),(9440,5021),(10420,42064),(10440,52064)] [] _ _ (ih_m_impl_patternVars fu (by omega) _ _ _ _ _ _ V18) ?_
 refine zf (zY (zd (za ?_)))
 refine zE (zaF C10 B11 hn_g6) ?_
 refine s_mv ?_
 refine zf ?_
 exact s_rn (fu,(g6+1),v18.1,v18.2) ⟨by first | omega | (dsimp only;omega),F13,by first | omega | (dsimp only;omega)⟩ [(5020,42064),(5021,52064)]
 iterate 7 refine r_no rfl ?_
 refine zD ?_
 refine zf (zd (zcC rfl (zi (zd (za ?_)))))
 refine z6 yA37 yS37 ?_
 iterate 4 refine s_mv ?_
 obtain ⟨v19,V19,F10⟩:=zc F9
 refine zT [(9000,9000),(9001,9001),(9420,5020),(9440,5021),(10420,42064),(10440,52064)] [] _ _ (ih_m_impl_patternVars fu (by omega) _ _ _ _ _ _ V19) ?_
 refine zf (zY (zd (za ?_)))
 refine zE (zaF C10 B11 hn_g6) ?_
 refine s_mv ?_
 refine zf ?_
 exact s_rn (fu,(g6+1),v19.1,v19.2) ⟨by first | omega | (dsimp only;omega),F10,by first | omega | (dsimp only;omega)⟩ [(5020,42064),(5021,52064)]
 refine zez 9000 5020 10420 [.ar 10420] ?_
 refine zez 9001 5021 10440 [.ar 10440] ?_
 refine zA (zr (zp (zu (k_fin_end ?_))))
 cases F7
 exact zk _ [] Tryz.results133
 refine zi (zd (zb (za ?_)))
 refine s_fa zJ ?_
 refine zq yA35 ?_
 refine zB yU35 ?_
 refine s_mv ?_
 refine zf (zd (zl ?_))
 refine zez 9000 9420 5040 [.ar 5040] ?_
 refine zez 9001 9440 5041 [.ar 5041] ?_
 refine zap [10,11,12,36,37,38,39,40,41,42,43,44,45,46,47,48,49,50,51,52,53,54,55,56,57,58,59,60,61,62,63,64,65] [5040,5041,9000,9001] [11,42064,52064] [5040,5041] (fun a:Nat × Int × (List Form) × (List Int)=>a.1) (fun a:Nat × Int × (List Form) × (List Int)=>[(36,.t (.sc (.int .i64 a.2.1)))]) (fun a:Nat × Int × (List Form) × (List Int)=>[(5040,.arr (a.2.2.1.map Form.row) 37 true),(5041,.arr (a.2.2.2.map rI) 3 true),(9000,.box [.ar 5040]),(9001,.box [.ar 5041])]) (fun a:Nat × Int × (List Form) × (List Int)=>a.1≤fu∧zI a.1 x1 x2 x3 a.2.1 a.2.2.1 a.2.2.2=some r∧0≤a.2.1) (fu,0,o1,o2) ⟨Nat.le_refl _,F2,by simp⟩ (by rfl) (by rfl) (fun _=>rfl) (zZ (by conv=>lhs;whnf) (by rfl) zbP) (zQ (by conv=>lhs;whnf) (by rfl) (zQ (by conv=>lhs;whnf) (by rfl) (zQ (by conv=>lhs;whnf) (by rfl) (zQ (by conv=>lhs;whnf) (by rfl) zbp)))) (zcP hC rfl) (by repeat (first | exact zah rfl | refine zaA rfl ?_ | refine zab rfl ?_)) (by repeat (first | exact za5 | exact zal rfl | refine zaB rfl ?_ | refine zac rfl ?_)) ?_
 clear F2
 rintro ⟨fu,g20,g21,g22⟩ ⟨hl23,F3,hn_g20⟩
 dsimp only at hl23 F3 hn_g20 ⊢
 obtain _ | fu:=fu
 · rw [zI] at F3;cases F3
 rw [zI] at F3
 refine zb (za ?_)
 refine s_lt ?_
 refine zf (zd (zb ?_))
 refine zn F3 ?_ ?_<;>intro C24 F4
 refine zH 34 (fun B25=>?_)
 refine zi (zd (zb (zl (zb (za ?_)))))
 refine s_mv ?_
 obtain ⟨v26,V26,F5⟩:=zc F4
 refine zN Form.row V26 (Form.row_eq _) yE35 ?_
 refine zaI yA37 yS37 ?_
 refine zaN yZ37 ?_
 refine s_as ?_
 refine zde yS37 ?_
 refine zf (zd (zb (za ?_)))
 refine s_mv ?_
 refine s_as ?_
 refine zf (zd (zb (zb (za ?_))))
 refine s_mv ?_
 refine zE (zaF C24 B25 hn_g20) ?_
 refine s_fa zJ ?_
 refine zq yA35 ?_
 refine zB yU35 ?_
 refine s_lt ?_
 refine s_mv ?_
 refine zx _ 48 F5 ?_ ?_<;>intro C27 F6
 refine s_fa zJ ?_
 refine zq yA35 ?_
 refine s_mv ?_
 refine zE (zaF C24 B25 hn_g20) ?_
 obtain ⟨v28,V28,F7⟩:=zc F6
 refine zN Form.row V28 (Form.row_eq _) yE35 ?_
 refine zaI yA37 yS37 ?_
 obtain ⟨v29,V29,F8⟩:=zc F7
 refine zy [] (zdK fu _ _ _ V29) ?_
 refine zC ?_
 refine zf (zd ?_)
 refine zn F8 ?_ ?_<;>intro C30 F9
 refine za ?_
 refine s_mv ?_
 refine zE rfl ?_
 refine s_as ?_
 refine zf (zd (za ?_))
 refine z6 yA37 yS37 ?_
 iterate 4 refine s_mv ?_
 obtain ⟨v31,V31,F10⟩:=zc F9
 refine zT [(9000,9000),(9001,9001),(9420,5040),(9440,5041),(10420,42064),(10440,52064)] [] _ _ (ih_m_impl_patternVars fu (by omega) _ _ _ _ _ _ V31) ?_
 refine zf (zY (zd (za ?_)))
 refine zE (zaF C24 B25 hn_g20) ?_
 refine s_mv ?_
 refine zf ?_
 exact s_rn (fu,(g20+1),v31.1,v31.2) ⟨by first | omega | (dsimp only;omega),F10,by first | omega | (dsimp only;omega)⟩ [(5040,42064),(5041,52064)]
 refine zi (zd (za ?_))
 refine z6 yA37 yS37 ?_
 iterate 4 refine s_mv ?_
 obtain ⟨v32,V32,F10⟩:=zc F9
 refine zT [(9000,9000),(9001,9001),(9420,5040),(9440,5041),(10420,42064),(10440,52064)] [] _ _ (ih_m_impl_patternVars fu (by omega) _ _ _ _ _ _ V32) ?_
 refine zf (zY (zd (za ?_)))
 refine zE (zaF C24 B25 hn_g20) ?_
 refine s_mv ?_
 refine zf ?_
 exact s_rn (fu,(g20+1),v32.1,v32.2) ⟨by first | omega | (dsimp only;omega),F10,by first | omega | (dsimp only;omega)⟩ [(5040,42064),(5041,52064)]
 iterate 7 refine r_no rfl ?_
 refine zD ?_
 refine zf (zd (zcC rfl (zi (zd (za ?_)))))
 refine z6 yA37 yS37 ?_
 iterate 4 refine s_mv ?_
 obtain ⟨v33,V33,F7⟩:=zc F6
 refine zT [(9000,9000),(9001,9001),(9420,5040),(9440,5041),(10420,42064),(10440,52064)] [] _ _ (ih_m_impl_patternVars fu (by omega) _ _ _ _ _ _ V33) ?_
 refine zf (zY (zd (za ?_)))
 refine zE (zaF C24 B25 hn_g20) ?_
 refine s_mv ?_
 refine zf ?_
 exact s_rn (fu,(g20+1),v33.1,v33.2) ⟨by first | omega | (dsimp only;omega),F7,by first | omega | (dsimp only;omega)⟩ [(5040,42064),(5041,52064)]
 refine zez 9000 5040 10420 [.ar 10420] ?_
 refine zez 9001 5041 10440 [.ar 10440] ?_
 refine zA (zr (zp (zu (k_fin_end ?_))))
 cases F4
 exact zk _ [] Tryz.results133
theorem m_impl_patternVars_all (fuel:Nat):zdm fuel:=by
 induction fuel using Nat.strongRecOn with
 | _ N ih =>
   cases N with
   | zero=>exact (by intro x1 x2 x3 o1 o2 r h;rw [zaT] at h;cases h)
   | succ fu=>exact m_impl_patternVars_st fu (fun k hk=>(ih k (by omega)))
theorem m_impl_patternVars_ok (fuel:Nat):zdm fuel:=(m_impl_patternVars_all fuel)
def m_impl_varsOf_AC (fuel:Nat):Prop:=∀ (x1:Form) (x2:(List Form)) (r:((List Form) × (List Int))),zeK fuel x1 x2=some r→AC Tryz.prog 101 [.ag [.t (.sc (.int .i64 x1.kind)),.t (.sc (.str x1.name)),.t (.sc (.int .i64 x1.n)),.t (.sl (x1.scopes.map rI)),.t (.sl (x1.kids.map Form.row))],.t (.sl (x2.map Form.row))] (objs []) (.tp [.ar 9200,.t (.sl (r.2.map rI))]) (objs [(9200,.arr (r.1.map Form.row) 37 true)])
theorem zgb (fuel:Nat):m_impl_varsOf_AC fuel:=by
 intro x1 x2 r F0
 unfold zeK at F0
 refine AC_i [.ar 9200,.t (.sl (r.2.map rI))] Tryz.func101 rfl Tryz.ntmps101 ?_
 intro C hC
 refine zb (za ?_)
 refine zbo ?_
 refine s_as ?_
 refine s_as ?_
 refine zf (zd (zb (za ?_)))
 refine s_bs Form.row ([]:List Form) yP35 yR37 ?_
 refine s_bs rI ([]:List Int) yP23 yR3 ?_
 refine zaN yZ35 ?_
 refine zaN yZ23 ?_
 refine zde yS35 ?_
 refine zde yS23 ?_
 refine zf (zd (zb (za ?_)))
 refine z6 yA37 yS37 ?_
 refine s_mv ?_
 obtain ⟨v1,V1,F1⟩:=zc F0
 refine zT [(9000,6),(9001,7),(9420,8),(9440,9),(10420,42012),(10440,52012)] [] _ _ (m_impl_patternVars_ok fuel _ _ _ _ _ _ V1) ?_
 refine zf (zd (zb ?_))
 refine zP yMix (by kernel_rfl) ?_
 refine zq yA35 ?_
 refine zq yA23 ?_
 refine s_as ?_
 refine s_as ?_
 refine zai (by kernel_rfl) ?_
 refine zd ?_
 refine zeY 4 42012 9200 (by conv=>lhs;whnf) (by conv=>lhs;whnf) rfl ?_
 refine zh (zo ?_)
 cases F1
 exact zk _ [52012] Tryz.results101
def m_impl_PatternValid_AC (fuel:Nat):Prop:=∀ (x1:Form) (x2:(List Form)) (r:Bool),zc3 fuel x1 x2=some r→AC Tryz.prog 49 [.ag [.t (.sc (.int .i64 x1.kind)),.t (.sc (.str x1.name)),.t (.sc (.int .i64 x1.n)),.t (.sl (x1.scopes.map rI)),.t (.sl (x1.kids.map Form.row))],.t (.sl (x2.map Form.row))] noOb (.t (.sc (.bool r))) noOb
theorem zfK (fuel:Nat):m_impl_PatternValid_AC fuel:=by
 intro x1 x2 r F0
 unfold zc3 at F0
 refine AC_i [.t (.sc (.bool r))] Tryz.func49 rfl Tryz.ntmps49 ?_
 intro C hC
 refine zb (za ?_)
 refine zbo ?_
 refine s_as ?_
 refine zf (zd (zb (zb (za ?_))))
 refine z6 yA37 yS37 ?_
 obtain ⟨v1,V1,F1⟩:=zc F0
 refine zy [] (zd2 fuel _ _ V1) ?_
 refine zbh ?_
 refine s_mv ?_
 refine zx _ 12 F1 ?_ ?_<;>intro C2 F2
 iterate 3 refine r_no rfl ?_
 refine zC ?_
 refine s_mv ?_
 refine r_no rfl (r_no rfl ?_)
 refine zC ?_
 refine s_mv ?_
 iterate 3 refine r_no rfl ?_
 refine zC ?_
 refine zf (zd (zaa rfl (zb (za ?_))))
 refine s_as ?_
 refine zf (zd (zh (zg (zo ?_))))
 cases F2
 exact zk [] [] Tryz.results49
 refine s_mv ?_
 obtain ⟨v3,V3,F3⟩:=zc F2
 refine zy [] (m_impl_literalsOk_ok fuel _ _ V3) ?_
 refine zbh ?_
 refine zD ?_
 refine s_mv ?_
 refine zx _ 17 F3 ?_ ?_<;>intro C4 F4
 refine r_no rfl (r_no rfl ?_)
 refine zC ?_
 refine s_mv ?_
 iterate 3 refine r_no rfl ?_
 refine zC ?_
 refine zf (zd (zaa rfl (zb (za ?_))))
 refine s_as ?_
 refine zf (zd (zh (zg (zo ?_))))
 cases F4
 exact zk [] [] Tryz.results49
 refine z6 yA37 yS37 ?_
 obtain ⟨v5,V5,F5⟩:=zc F4
 refine zy [] (zdK fuel _ _ _ V5) ?_
 refine zD ?_
 refine s_mv ?_
 refine zx _ 21 F5 ?_ ?_<;>intro C6 F6
 iterate 3 refine r_no rfl ?_
 refine zC ?_
 refine zf (zd (zaa rfl (zb (za ?_))))
 refine s_as ?_
 refine zf (zd (zh (zg (zo ?_))))
 cases F6
 exact zk [] [] Tryz.results49
 refine z6 yA37 yS37 ?_
 obtain ⟨v7,V7,F7⟩:=zc F6
 refine zy [] (m_impl_dotsOk_ok fuel _ _ _ V7) ?_
 refine zbh ?_
 refine zD ?_
 refine zf (zd ?_)
 refine zn F7 ?_ ?_<;>intro C8 F8
 refine zb (za ?_)
 refine s_as ?_
 refine zf (zd (zh (zg (zo ?_))))
 cases F8
 exact zk [] [] Tryz.results49
 refine zi (zd (zb (za ?_)))
 refine z6 yA37 yS37 ?_
 refine s_mv ?_
 obtain ⟨v9,V9,F9⟩:=zc F8
 refine zT [(9200,2029)] [] _ _ (zgb fuel _ _ _ V9) ?_
 refine s_mv ?_
 refine zdv ?_
 refine zdv ?_
 refine s_as ?_
 refine s_as ?_
 refine zf (zd (zb (zb (za ?_))))
 refine s_mv ?_
 refine s_lenA yU35 ?_
 refine s_mv ?_
 refine zf (zd (zl ?_))
 refine awp_frz 2029 (by conv=>lhs;whnf) ?_
 refine zaE (β:=Int × (List Form)) [4,7,8,34,35,36,37,38,39,40,41,42,43,44,45,46,47,48,49,50,51] [2029] [8] (fun a=>[(34,.t (.sc (.int .i64 a.2.1)))]) (fun a=>[(2029,.arr (a.2.2.map Form.row) 37 false)]) (fun a=>a.1≤fuel∧zao a.1 v9 a.2.1 a.2.2=some r) (fuel,0,v9.1) ⟨Nat.le_refl _,F9⟩ ?_
 clear F9
 rintro ⟨fu,g10,g11⟩ ⟨hl12,F10⟩
 dsimp only at hl12 F10 ⊢
 obtain _ | fu:=fu
 · rw [zao] at F10;cases F10
 rw [zao] at F10
 refine zb (za ?_)
 refine s_lt ?_
 refine zf (zd (zb ?_))
 refine zn F10 ?_ ?_<;>intro C13 F11
 refine zi (zd (zb (zl (zb (za ?_)))))
 refine s_mv ?_
 obtain ⟨v14,V14,F12⟩:=zc F11
 refine s_ixA Form.row V14 yE35 ?_
 refine s_lAN Form.row V14 (Form.row_eq _) yA37 yS37 ?_
 refine zaN yZ37 ?_
 refine s_as ?_
 refine zde yS37 ?_
 refine zf (zd (zb ?_))
 refine zP yMix (by kernel_rfl) ?_
 refine s_mv0 ?_
 refine s_mv ?_
 obtain ⟨v15,V15,F13⟩:=zc F12
 refine s_sl01 Form.row (fun y=>Form.row_len y) V15 yU35 yE35 ?_
 refine z6 yA37 yS37 ?_
 obtain ⟨v16,V16,F14⟩:=zc F13
 refine zy [] (zeV fu _ _ _ V16) ?_
 refine s_mv ?_
 refine zx _ 44 F14 ?_ ?_<;>intro C17 F15
 iterate 5 refine r_no rfl ?_
 refine zC ?_
 refine zai (by kernel_rfl) ?_
 refine zd (zaa rfl (zb (za ?_)))
 refine s_as ?_
 refine zf (zd (zh (zj (zg (zv (zj (zg (zo ?_))))))))
 cases F15
 exact zk [] [] Tryz.results49
 refine s_mv ?_
 refine s_mv ?_
 obtain ⟨v18,V18,F16⟩:=zc F15
 refine zN rI V18 rfl yE23 ?_
 refine zq yA3 ?_
 refine s_gt ?_
 refine zD ?_
 refine zai (by kernel_rfl) ?_
 refine zd ?_
 refine zn F16 ?_ ?_<;>intro C19 F17
 refine zb (za ?_)
 refine s_as ?_
 refine zf (zd (zh (zj (zg (zv (zj (zg (zo ?_))))))))
 cases F17
 exact zk [] [] Tryz.results49
 refine zi (zY (zd (za ?_)))
 refine zE rfl ?_
 refine s_mv ?_
 refine zf ?_
 exact s_rn (fu,(w64 (g10+1)),g11) ⟨by first | omega | (dsimp only;omega),F17⟩
 refine zA (zr (zp (zu (zd (zb (za ?_))))))
 refine s_mv ?_
 refine s_lenA yU35 ?_
 refine s_le ?_
 refine s_as ?_
 refine zf (zd (zh (zo ?_)))
 cases F11
 exact zk [] [] Tryz.results49
def m_slices_Index_int_AC (fuel:Nat):Prop:=∀ (x1:(List Int)) (x2:Int) (r:Int),zej fuel x1 x2=some r→AC Tryz.prog 186 [.t (.sl (x1.map rI)),.t (.sc (.int .i64 x2))] noOb (.t (.sc (.int .i64 r))) noOb
theorem m_slices_Index_int_ok (fuel:Nat):m_slices_Index_int_AC fuel:=by
 intro x1 x2 r F0
 unfold zej at F0
 refine AC_i [.t (.sc (.int .i64 r))] Tryz.func186 rfl Tryz.ntmps186 ?_
 intro C hC
 refine zb (za ?_)
 refine s_as ?_
 refine zf (zd (zb (zb (za ?_))))
 refine s_mv ?_
 refine zB yU23 ?_
 refine s_mv ?_
 refine zf (zd (zl ?_))
 refine zaE (β:=Int) [4,5,8,9,10,11,12,13,14,15,16,17,18] [] [] (fun a=>[(8,.t (.sc (.int .i64 a.2)))]) (fun a=>[]) (fun a=>a.1≤fuel∧zbs a.1 x1 x2 a.2=some r∧0≤a.2) (fuel,0) ⟨Nat.le_refl _,F0,by simp⟩ ?_
 clear F0
 rintro ⟨fu,g1⟩ ⟨hl2,F1,hn_g1⟩
 dsimp only at hl2 F1 hn_g1 ⊢
 obtain _ | fu:=fu
 · rw [zbs] at F1;cases F1
 rw [zbs] at F1
 refine zb (za ?_)
 refine s_lt ?_
 refine zf (zd (zb ?_))
 refine zn F1 ?_ ?_<;>intro C3 F2
 refine zH 0 (fun B4=>?_)
 refine zi (zd (zb (zl (zb (za ?_)))))
 refine s_mv ?_
 refine s_as ?_
 refine zf (zd (zb (za ?_)))
 iterate 3 refine s_mv ?_
 obtain ⟨v5,V5,F3⟩:=zc F2
 refine zN rI V5 rfl yE23 ?_
 refine zq yA3 ?_
 refine s_eq ?_
 refine zf (zd ?_)
 refine zn F3 ?_ ?_<;>intro C6 F4
 refine zb (za ?_)
 refine s_mv ?_
 refine s_as ?_
 refine zf (zd (zh (zj (zg (zv (zj (zg (zo ?_))))))))
 cases F4
 exact zk [] [] Tryz.results186
 refine zi (zY (zd (za ?_)))
 refine zE (zaF C3 B4 hn_g1) ?_
 refine s_mv ?_
 refine zf ?_
 exact s_rn (fu,(g1+1)) ⟨by first | omega | (dsimp only;omega),F4,by first | omega | (dsimp only;omega)⟩
 refine zA (zr (zp (zu (zd (zb (za ?_))))))
 refine s_as ?_
 refine zf (zd (zh (zo ?_)))
 cases F2
 exact zk [] [] Tryz.results186
def zg2 (fuel:Nat):Prop:=∀ (x1:(List Int)) (x2:Int) (r:Bool),zcx fuel x1 x2=some r→AC Tryz.prog 184 [.t (.sl (x1.map rI)),.t (.sc (.int .i64 x2))] noOb (.t (.sc (.bool r))) noOb
theorem zg1 (fuel:Nat):zg2 fuel:=by
 intro x1 x2 r F0
 unfold zcx at F0
 refine AC_i [.t (.sc (.bool r))] Tryz.func184 rfl Tryz.ntmps184 ?_
 intro C hC
 refine zb (za ?_)
 refine s_as ?_
 refine zf (zd (zb (za ?_)))
 refine s_mv ?_
 refine s_mv ?_
 obtain ⟨v1,V1,F1⟩:=zc F0
 refine zy [] (m_slices_Index_int_ok fuel _ _ _ V1) ?_
 refine s_ge ?_
 refine s_as ?_
 refine zf (zd (zh (zo ?_)))
 cases F1
 exact zk [] [] Tryz.results184
def zg7 (fuel:Nat):Prop:=∀ (x1:Int) (o1:(List Int)) (r:Bool),zcB fuel x1 o1=some r→AC Tryz.prog 183 [.t (.sc (.int .i64 x1)),.rf 9000 0] (objs [(9000,.box [.t (.sl (o1.map rI))])]) (.t (.sc (.bool r))) (objs [(9000,.box [.t (.sl (o1.map rI))])])
theorem zg6 (fuel:Nat):zg7 fuel:=by
 intro x1 o1 r F0
 unfold zcB at F0
 refine AC_i [.t (.sc (.bool r))] Tryz.func183 rfl Tryz.ntmps183 ?_
 intro C hC
 refine zb (za ?_)
 refine s_as ?_
 refine zf (zd (zb (za ?_)))
 refine zq yA23 ?_
 refine s_mv ?_
 obtain ⟨v1,V1,F1⟩:=zc F0
 refine zy [] (zg1 fuel _ _ _ V1) ?_
 refine zbh ?_
 refine s_as ?_
 refine zf (zd (zh (zo ?_)))
 cases F1
 exact zk _ [] Tryz.results183
def zeo (fuel:Nat):Prop:=∀ (x1:(List Int)) (o1:(List Int)) (r:Int),zaJ fuel x1 o1=some r→AC Tryz.prog 182 [.t (.sl (x1.map rI)),.fn 183 [.rf 9000 0]] (objs [(9000,.box [.t (.sl (o1.map rI))])]) (.t (.sc (.int .i64 r))) (objs [(9000,.box [.t (.sl (o1.map rI))])])
theorem zen (fuel:Nat):zeo fuel:=by
 intro x1 o1 r F0
 unfold zaJ at F0
 refine AC_i [.t (.sc (.int .i64 r))] Tryz.func182 rfl Tryz.ntmps182 ?_
 intro C hC
 refine zb (za ?_)
 refine s_as ?_
 refine zf (zd (zb (zb (za ?_))))
 refine s_mv ?_
 refine zB yU23 ?_
 refine s_mv ?_
 refine zf (zd (zl ?_))
 refine zaE (β:=Int) [4,5,8,9,10,11,12,13,14,15,16,17,18] [] [] (fun a=>[(8,.t (.sc (.int .i64 a.2)))]) (fun a=>[]) (fun a=>a.1≤fuel∧zK a.1 x1 o1 a.2=some r∧0≤a.2) (fuel,0) ⟨Nat.le_refl _,F0,by simp⟩ ?_
 clear F0
 rintro ⟨fu,g1⟩ ⟨hl2,F1,hn_g1⟩
 dsimp only at hl2 F1 hn_g1 ⊢
 obtain _ | fu:=fu
 · rw [zK] at F1;cases F1
 rw [zK] at F1
 refine zb (za ?_)
 refine s_lt ?_
 refine zf (zd (zb ?_))
 refine zn F1 ?_ ?_<;>intro C3 F2
 refine zH 0 (fun B4=>?_)
 refine zi (zd (zb (zl (zb (za ?_)))))
 refine s_mv ?_
 refine s_as ?_
 refine zf (zd (zb (za ?_)))
 iterate 3 refine s_mv ?_
 obtain ⟨v5,V5,F3⟩:=zc F2
 refine zN rI V5 rfl yE23 ?_
 refine zq yA3 ?_
 obtain ⟨v6,V6,F4⟩:=zc F3
 refine zT [(9000,9000)] [] _ _ (zg6 fu _ _ _ V6) ?_
 refine zf (zd ?_)
 refine zn F4 ?_ ?_<;>intro C7 F5
 refine zb (za ?_)
 refine s_mv ?_
 refine s_as ?_
 refine zf (zd (zh (zj (zg (zv (zj (zg (zo ?_))))))))
 cases F5
 exact zk _ [] Tryz.results182
 refine zi (zY (zd (za ?_)))
 refine zE (zaF C3 B4 hn_g1) ?_
 refine s_mv ?_
 refine zf ?_
 exact s_rn (fu,(g1+1)) ⟨by first | omega | (dsimp only;omega),F5,by first | omega | (dsimp only;omega)⟩
 refine zA (zr (zp (zu (zd (zb (za ?_))))))
 refine s_as ?_
 refine zf (zd (zh (zo ?_)))
 cases F2
 exact zk _ [] Tryz.results182
def zdX (fuel:Nat):Prop:=∀ (x1:(List Int)) (o1:(List Int)) (r:Bool),zas fuel x1 o1=some r→AC Tryz.prog 172 [.t (.sl (x1.map rI)),.fn 183 [.rf 9000 0]] (objs [(9000,.box [.t (.sl (o1.map rI))])]) (.t (.sc (.bool r))) (objs [(9000,.box [.t (.sl (o1.map rI))])])
theorem zdW (fuel:Nat):zdX fuel:=by
 intro x1 o1 r F0
 unfold zas at F0
 refine AC_i [.t (.sc (.bool r))] Tryz.func172 rfl Tryz.ntmps172 ?_
 intro C hC
 refine zb (za ?_)
 refine s_as ?_
 refine zf (zd (zb (za ?_)))
 refine s_mv ?_
 refine s_mv ?_
 obtain ⟨v1,V1,F1⟩:=zc F0
 refine zT [(9000,9000)] [] _ _ (zen fuel _ _ _ V1) ?_
 refine s_ge ?_
 refine s_as ?_
 refine zf (zd (zh (zo ?_)))
 cases F1
 exact zk _ [] Tryz.results172
def m_impl_ScopesWithin_AC (fuel:Nat):Prop:=∀ (x1:(List Int)) (x2:(List Int)) (r:Bool),zco fuel x1 x2=some r→AC Tryz.prog 174 [.t (.sl (x1.map rI)),.t (.sl (x2.map rI))] noOb (.t (.sc (.bool r))) noOb
theorem zfJ (fuel:Nat):m_impl_ScopesWithin_AC fuel:=by
 intro x1 x2 r F0
 unfold zco at F0
 refine AC_i [.t (.sc (.bool r))] Tryz.func174 rfl Tryz.ntmps174 ?_
 intro C hC
 refine zb (za ?_)
 refine zbo ?_
 refine s_as ?_
 refine zf (zd (zb (za ?_)))
 refine s_mv ?_
 refine s_fn ?_
 obtain ⟨v1,V1,F1⟩:=zc F0
 refine zT [(9000,3)] [] _ _ (zdW fuel _ _ _ V1) ?_
 refine zbh ?_
 refine s_as ?_
 refine zf (zd (zh (zo ?_)))
 cases F1
 exact zk [] [] Tryz.results174
def m_impl_fitting_AC (fuel:Nat):Prop:=∀ (x1:(List Bind)) (x2:Form) (r:(List Int)),zeW fuel x1 x2=some r→AC Tryz.prog 171 [.t (.sl (x1.map Bind.row)),.ag [.t (.sc (.int .i64 x2.kind)),.t (.sc (.str x2.name)),.t (.sc (.int .i64 x2.n)),.t (.sl (x2.scopes.map rI)),.t (.sl (x2.kids.map Form.row))]] noOb (.t (.sl (r.map rI))) noOb
theorem m_impl_fitting_ok (fuel:Nat):m_impl_fitting_AC fuel:=by
 intro x1 x2 r F0
 unfold zeW at F0
 refine AC_i [.t (.sl (r.map rI))] Tryz.func171 rfl Tryz.ntmps171 ?_
 intro C hC
 refine zb (za ?_)
 refine zbo ?_
 refine s_as ?_
 refine zf (zd (zb (za ?_)))
 refine s_bs rI ([]:List Int) yP23 yR3 ?_
 refine s_as ?_
 refine zf (zd (zb (zb (za ?_))))
 refine s_mv ?_
 refine zB yU33 ?_
 refine s_mv ?_
 refine zf (zd (zl ?_))
 refine zeY 5 8 5020 (by conv=>lhs;whnf) (by conv=>lhs;whnf) rfl ?_
 refine zap [5,6,7,11,12,13,14,15,16,17,18,19,20,21,22,23,24,25,26,27,28,29,30,31,32] [5020] [7,30,31] [5020] (fun a:Nat × (List Int) × Int=>a.1) (fun a:Nat × (List Int) × Int=>[(5,.ar 5020),(11,.t (.sc (.int .i64 a.2.2)))]) (fun a:Nat × (List Int) × Int=>[(5020,.arr (a.2.1.map rI) 3 true)]) (fun a:Nat × (List Int) × Int=>a.1≤fuel∧zbG a.1 x1 x2 a.2.1 a.2.2=some r∧0≤a.2.2) (fuel,([]:List Int),0) ⟨Nat.le_refl _,F0,by simp⟩ (by rfl) (by rfl) (fun _=>rfl) (zZ (by conv=>lhs;whnf) (by rfl) (zZ (by conv=>lhs;whnf) (by rfl) zbP)) (zQ (by conv=>lhs;whnf) (by rfl) zbp) (zcP hC rfl) (by repeat (first | exact zah rfl | refine zaA rfl ?_ | refine zab rfl ?_)) (by repeat (first | exact za5 | exact zal rfl | refine zaB rfl ?_ | refine zac rfl ?_)) ?_
 clear F0
 rintro ⟨fu,g1,g2⟩ ⟨hl3,F1,hn_g2⟩
 dsimp only at hl3 F1 hn_g2 ⊢
 obtain _ | fu:=fu
 · rw [zbG] at F1;cases F1
 rw [zbG] at F1
 refine zb (za ?_)
 refine s_lt ?_
 refine zf (zd (zb ?_))
 refine zn F1 ?_ ?_<;>intro C4 F2
 refine zH 0 (fun B5=>?_)
 refine zi (zd (zb (zl (zb (za ?_)))))
 refine s_mv ?_
 obtain ⟨v6,V6,F3⟩:=zc F2
 refine zN Bind.row V6 (Bind.row_eq _) yE33 ?_
 refine zaI yA83 yS83 ?_
 refine zaN yZ83 ?_
 refine s_as ?_
 refine zde yS83 ?_
 refine zf (zd ?_)
 refine zdr (α:=Nat × Bool) [16,17,18,19,20,21,22,23,24,25,26,27] [] [] (fun a=>[(27,.t (.sc (.bool a.2)))]) (fun a=>[]) (fun a=>a.1≤fu∧zcn a.1 x1 x2 g1 g2 a.2=some r) ?_ ?_
 refine za ?_
 refine s_fa zgX ?_
 refine zq yA9 ?_
 refine s_fa zbC ?_
 refine zq yA9 ?_
 refine zgj ?_
 refine s_mv ?_
 refine zx _ 21 F3 ?_ ?_<;>intro C7 F4
 refine s_fa zfY ?_
 refine zq yA23 ?_
 refine s_fa zdR ?_
 refine zq yA23 ?_
 obtain ⟨v8,V8,F5⟩:=zc F4
 refine zy [] (zfJ fu _ _ _ V8) ?_
 refine zC ?_
 refine zf ?_
 exact s_jn (fu,v8) ⟨by first | omega | (dsimp only;omega),F5⟩
 iterate 5 refine r_no rfl ?_
 refine zD ?_
 refine zf ?_
 exact s_jn (fu,false) ⟨by first | omega | (dsimp only;omega),F4⟩
 clear F3
 rintro ⟨fu,g9⟩ ⟨hl10,F4⟩
 dsimp only at hl10 F4 ⊢
 obtain _ | fu:=fu
 · rw [zcn] at F4;cases F4
 rw [zcn] at F4
 refine zn F4 ?_ ?_<;>intro C11 F5
 refine za ?_
 refine s_mv ?_
 refine s_mv ?_
 refine s_bs rI [g2] yP23 yR3 ?_
 obtain ⟨hk12,F6⟩:=zat F5
 refine zgC rI (fun _=>rfl) hk12 yP23 ?_
 refine s_as ?_
 refine zf (zY (zd (za ?_)))
 refine zE (zaF C4 B5 hn_g2) ?_
 refine s_mv ?_
 refine zf ?_
 exact s_rn (fu,(g1++[g2]),(g2+1)) ⟨by first | omega | (dsimp only;omega),F6,by first | omega | (dsimp only;omega)⟩ [(5020,31)]
 refine zi (zY (zd (za ?_)))
 refine zE (zaF C4 B5 hn_g2) ?_
 refine s_mv ?_
 refine zf ?_
 exact s_rn (fu,g1,(g2+1)) ⟨by first | omega | (dsimp only;omega),F5,by first | omega | (dsimp only;omega)⟩
 refine zA (zr (zp (zu (zd (zb (za ?_))))))
 refine s_mv ?_
 refine s_as ?_
 refine zf (zd (zh (zo ?_)))
 cases F2
 exact zk [] [5020] Tryz.results171
def m_impl_bound_1_AC (fuel:Nat):Prop:=∀ (x1:Int) (o1:(List Bind)) (o2:Int) (r:Bool),zeX fuel x1 o1 o2=some r→AC Tryz.prog 173 [.t (.sc (.int .i64 x1)),.rf 9000 0,.rf 9001 0] (objs [(9000,.box [.t (.sl (o1.map Bind.row))]),(9001,.box [.t (.sc (.int .i64 o2))])]) (.t (.sc (.bool r))) (objs [(9000,.box [.t (.sl (o1.map Bind.row))]),(9001,.box [.t (.sc (.int .i64 o2))])])
theorem m_impl_bound_1_ok (fuel:Nat):m_impl_bound_1_AC fuel:=by
 intro x1 o1 o2 r F0
 unfold zeX at F0
 refine AC_i [.t (.sc (.bool r))] Tryz.func173 rfl Tryz.ntmps173 ?_
 intro C hC
 refine zb (za ?_)
 refine s_as ?_
 refine zf (zd (zb ?_))
 refine zP yMix (by kernel_rfl) ?_
 refine zq yA33 ?_
 refine s_mv ?_
 obtain ⟨v1,V1,F1⟩:=zc F0
 refine zN Bind.row V1 (Bind.row_eq _) yE33 ?_
 refine s_fa zfY ?_
 refine zq yA23 ?_
 refine zq yA33 ?_
 refine zq yA3 ?_
 obtain ⟨v2,V2,F2⟩:=zc F1
 refine zN Bind.row V2 (Bind.row_eq _) yE33 ?_
 refine s_fa zfY ?_
 refine zq yA23 ?_
 obtain ⟨v3,V3,F3⟩:=zc F2
 refine zy [] (zfJ fuel _ _ _ V3) ?_
 refine zbh ?_
 refine s_as ?_
 refine zai (by kernel_rfl) ?_
 refine zd (zh (zo ?_))
 cases F3
 exact zk _ [] Tryz.results173
def zft (fuel:Nat):Prop:=∀ (x1:(List Int)) (o1:(List Bind)) (o2:Int) (r:Int),zbI fuel x1 o1 o2=some r→AC Tryz.prog 182 [.t (.sl (x1.map rI)),.fn 173 [.rf 9000 0,.rf 9001 0]] (objs [(9000,.box [.t (.sl (o1.map Bind.row))]),(9001,.box [.t (.sc (.int .i64 o2))])]) (.t (.sc (.int .i64 r))) (objs [(9000,.box [.t (.sl (o1.map Bind.row))]),(9001,.box [.t (.sc (.int .i64 o2))])])
theorem zfs (fuel:Nat):zft fuel:=by
 intro x1 o1 o2 r F0
 unfold zbI at F0
 refine AC_i [.t (.sc (.int .i64 r))] Tryz.func182 rfl Tryz.ntmps182 ?_
 intro C hC
 refine zb (za ?_)
 refine s_as ?_
 refine zf (zd (zb (zb (za ?_))))
 refine s_mv ?_
 refine zB yU23 ?_
 refine s_mv ?_
 refine zf (zd (zl ?_))
 refine zaE (β:=Int) [4,5,8,9,10,11,12,13,14,15,16,17,18] [] [] (fun a=>[(8,.t (.sc (.int .i64 a.2)))]) (fun a=>[]) (fun a=>a.1≤fuel∧z7 a.1 x1 o1 o2 a.2=some r∧0≤a.2) (fuel,0) ⟨Nat.le_refl _,F0,by simp⟩ ?_
 clear F0
 rintro ⟨fu,g1⟩ ⟨hl2,F1,hn_g1⟩
 dsimp only at hl2 F1 hn_g1 ⊢
 obtain _ | fu:=fu
 · rw [z7] at F1;cases F1
 rw [z7] at F1
 refine zb (za ?_)
 refine s_lt ?_
 refine zf (zd (zb ?_))
 refine zn F1 ?_ ?_<;>intro C3 F2
 refine zH 0 (fun B4=>?_)
 refine zi (zd (zb (zl (zb (za ?_)))))
 refine s_mv ?_
 refine s_as ?_
 refine zf (zd (zb (za ?_)))
 iterate 3 refine s_mv ?_
 obtain ⟨v5,V5,F3⟩:=zc F2
 refine zN rI V5 rfl yE23 ?_
 refine zq yA3 ?_
 obtain ⟨v6,V6,F4⟩:=zc F3
 refine zT [(9000,9000),(9001,9001)] [] _ _ (m_impl_bound_1_ok fu _ _ _ _ V6) ?_
 refine zf (zd ?_)
 refine zn F4 ?_ ?_<;>intro C7 F5
 refine zb (za ?_)
 refine s_mv ?_
 refine s_as ?_
 refine zf (zd (zh (zj (zg (zv (zj (zg (zo ?_))))))))
 cases F5
 exact zk _ [] Tryz.results182
 refine zi (zY (zd (za ?_)))
 refine zE (zaF C3 B4 hn_g1) ?_
 refine s_mv ?_
 refine zf ?_
 exact s_rn (fu,(g1+1)) ⟨by first | omega | (dsimp only;omega),F5,by first | omega | (dsimp only;omega)⟩
 refine zA (zr (zp (zu (zd (zb (za ?_))))))
 refine s_as ?_
 refine zf (zd (zh (zo ?_)))
 cases F2
 exact zk _ [] Tryz.results182
def zeQ (fuel:Nat):Prop:=∀ (x1:(List Int)) (o1:(List Bind)) (o2:Int) (r:Bool),zbj fuel x1 o1 o2=some r→AC Tryz.prog 172 [.t (.sl (x1.map rI)),.fn 173 [.rf 9000 0,.rf 9001 0]] (objs [(9000,.box [.t (.sl (o1.map Bind.row))]),(9001,.box [.t (.sc (.int .i64 o2))])]) (.t (.sc (.bool r))) (objs [(9000,.box [.t (.sl (o1.map Bind.row))]),(9001,.box [.t (.sc (.int .i64 o2))])])
theorem zeP (fuel:Nat):zeQ fuel:=by
 intro x1 o1 o2 r F0
 unfold zbj at F0
 refine AC_i [.t (.sc (.bool r))] Tryz.func172 rfl Tryz.ntmps172 ?_
 intro C hC
 refine zb (za ?_)
 refine s_as ?_
 refine zf (zd (zb (za ?_)))
 refine s_mv ?_
 refine s_mv ?_
 obtain ⟨v1,V1,F1⟩:=zc F0
 refine zT [(9000,9000),(9001,9001)] [] _ _ (zfs fuel _ _ _ _ V1) ?_
 refine s_ge ?_
 refine s_as ?_
 refine zf (zd (zh (zo ?_)))
 cases F1
 exact zk _ [] Tryz.results172
end Go.Abs
