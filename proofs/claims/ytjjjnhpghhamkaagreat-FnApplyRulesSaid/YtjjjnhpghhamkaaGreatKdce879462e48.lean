/- A part of the proof: what the functions that the law calls answer, as pure values. -/
import Derived.Test.YtjjjnhpghhamkaaGreatK8d582f2e31e6
import Derived.Test.YtjjjnhpghhamkaaGreatK4ee70f842008
import Derived.Test.YtjjjnhpghhamkaaGreatK8faf616840a9
import Derived.Test.YtjjjnhpghhamkaaGreatKfe938720da0d
set_option linter.unusedSimpArgs false
set_option linter.unusedVariables false
set_option maxRecDepth 100000
set_option maxHeartbeats 4000000
namespace Go.Abs
open Go.Proofs
def zeg (fuel:Nat):Prop:=∀ (x1:Form) (x2:(List Form)) (x3:Int) (o1:(List Form)) (o2:(List Int)) (r:((List Form) × (List Int))),zbh fuel x1 x2 x3 o1 o2=some r→AC Tryz.prog 140 [.ag [.t (.sc (.int .i64 x1.kind)),.t (.sc (.str x1.name)),.t (.sc (.int .i64 x1.n)),.t (.sl (x1.scopes.map rI)),.t (.sl (x1.kids.map Form.row))],.t (.sl (x2.map Form.row)),.t (.sc (.int .i64 x3)),.rf 9000 0,.rf 9001 0] (objs [(9000,.box [.ar 9420]),(9420,.arr (o1.map Form.row) 27 true),(9001,.box [.ar 9440]),(9440,.arr (o2.map rI) 3 true)]) (.tp []) (objs [(9000,.box [.ar 10420]),(9420,.dead),(9001,.box [.ar 10440]),(9440,.dead),(10420,.arr (r.1.map Form.row) 27 true),(10440,.arr (r.2.map rI) 3 true)])
theorem m_impl_patternVars_st (fu:Nat) (ih_m_impl_patternVars:∀ k,k≤fu→zeg k):zeg (fu+1):=by
 intro x1 x2 x3 o1 o2 r F0
 rw [zbh] at F0
 refine AC_i [] Tryz.func140 rfl Tryz.ntmps140 ?_
 intro C hC
 refine zb (za ?_)
 refine zaN ?_
 refine zf (zd (zb (zb (za ?_))))
 refine zG yA27 yS27 ?_
 refine s_mv ?_
 obtain ⟨v1,V1,F1⟩:=zc F0
 refine zv [] (m_impl_isVar_ok fu _ _ _ V1) ?_
 refine zf (zd ?_)
 refine zm F1 ?_ ?_<;>intro C2 F2
 refine zb ?_
 refine zP yMix (by kernel_rfl) ?_
 refine s_mv ?_
 refine s_nc ?_
 refine zu yA25 ?_
 refine zG yA27 yS27 ?_
 refine zhc yU25 ?_
 refine s_bs Form.row [(Form.mk 0 (⟨#[]⟩:ByteArray) 0 ([]:List Int) ([]:List Form))] yP25 yR27 ?_
 obtain ⟨hk3,F3⟩:=zac F2
 refine zel Form.row (fun y=>Form.row_len y) hk3 yP25 ?_
 obtain ⟨v4,V4,F4⟩:=zc F3
 refine ziy Form.row V4 yE25 ?_
 refine s_stA Form.row x1 V4 (Form.row_eq _) (Form.row_eq _) yS27 yS27 ?_
 refine s_nc ?_
 refine zab yS25 ?_
 refine zah (by kernel_rfl) ?_
 refine zd (za ?_)
 refine s_mv ?_
 refine s_mv ?_
 refine s_nc ?_
 refine zu yA24 ?_
 refine s_mv ?_
 refine s_bs rI [x3] yP24 yR3 ?_
 obtain ⟨hk5,F5⟩:=zac F4
 refine zel rI (fun _=>rfl) hk5 yP24 ?_
 refine s_nc ?_
 refine zab yS24 ?_
 refine zf (zd (zb (za ?_)))
 refine s_fa zF ?_
 refine zu yA25 ?_
 refine zC yU25 ?_
 refine s_mv ?_
 refine zf (zd (zl ?_))
 refine zeV 9000 22 5020 [.ar 5020] ?_
 refine zeV 9001 31 5021 [.ar 5021] ?_
 refine zak [10,11,12,36,37,38,39,40,41,42,43,44,45,46,47,48,49,50,51,52,53,54,55,56,57,58,59,60,61,62,63,64,65] [5020,5021,9000,9001] [11,42064,52064] [5020,5021] (fun a:Nat × Int × (List Form) × (List Int)=>a.1) (fun a:Nat × Int × (List Form) × (List Int)=>[(36,.t (.sc (.int .i64 a.2.1)))]) (fun a:Nat × Int × (List Form) × (List Int)=>[(5020,.arr (a.2.2.1.map Form.row) 27 true),(5021,.arr (a.2.2.2.map rI) 3 true),(9000,.box [.ar 5020]),(9001,.box [.ar 5021])]) (fun a:Nat × Int × (List Form) × (List Int)=>a.1≤fu∧zV a.1 x1 x2 x3 a.2.1 a.2.2.1 a.2.2.2=some r∧0≤a.2.1) (fu,0,((o1++[(Form.mk 0 (⟨#[]⟩:ByteArray) 0 ([]:List Int) ([]:List Form))]).set (o1.length:Int).toNat x1),(o2++[x3])) ⟨Nat.le_refl _,F5,by simp⟩ (by rfl) (by rfl) (fun _=>rfl) (zI (by conv=>lhs;whnf) (by rfl) zaX) (zL (by conv=>lhs;whnf) (by rfl) (zL (by conv=>lhs;whnf) (by rfl) (zL (by conv=>lhs;whnf) (by rfl) (zL (by conv=>lhs;whnf) (by rfl) zaK)))) (zbZ hC rfl) (by repeat (first | exact z6 rfl | refine zal rfl ?_ | refine zQ rfl ?_)) (by repeat (first | exact zay | exact zad rfl | refine zam rfl ?_ | refine zR rfl ?_)) ?_
 clear F5
 rintro ⟨fu,g6,g7,g8⟩ ⟨hl9,F6,hn_g6⟩
 dsimp only at hl9 F6 hn_g6 ⊢
 obtain _ | fu:=fu
 · rw [zV] at F6;cases F6
 rw [zV] at F6
 refine zb (za ?_)
 refine s_lt ?_
 refine zf (zd (zb ?_))
 refine zm F6 ?_ ?_<;>intro C10 F7
 refine zM 34 (fun B11=>?_)
 refine zi (zd (zb (zl (zb (za ?_)))))
 refine s_mv ?_
 obtain ⟨v12,V12,F8⟩:=zc F7
 refine zK Form.row V12 (Form.row_eq _) yE25 ?_
 refine zai yA27 yS27 ?_
 refine zU yZ27 ?_
 refine s_as ?_
 refine zab yS27 ?_
 refine zf (zd (zb (za ?_)))
 refine s_mv ?_
 refine s_as ?_
 refine zf (zd (zb (zb (za ?_))))
 refine s_mv ?_
 refine zJ (zar C10 B11 hn_g6) ?_
 refine s_fa zF ?_
 refine zu yA25 ?_
 refine zC yU25 ?_
 refine s_lt ?_
 refine s_mv ?_
 refine zo _ 48 F8 ?_ ?_<;>intro C13 F9
 refine s_fa zF ?_
 refine zu yA25 ?_
 refine s_mv ?_
 refine zJ (zar C10 B11 hn_g6) ?_
 obtain ⟨v14,V14,F10⟩:=zc F9
 refine zK Form.row V14 (Form.row_eq _) yE25 ?_
 refine zai yA27 yS27 ?_
 obtain ⟨v15,V15,F11⟩:=zc F10
 refine zv [] (zbM fu _ _ _ V15) ?_
 refine zA ?_
 refine zf (zd ?_)
 refine zm F11 ?_ ?_<;>intro C16 F12
 refine za ?_
 refine s_mv ?_
 refine zJ rfl ?_
 refine s_as ?_
 refine zf (zd (za ?_))
 refine zG yA27 yS27 ?_
 iterate 4 refine s_mv ?_
 obtain ⟨v17,V17,F13⟩:=zc F12
 refine z4 [(9000,9000),(9001,9001),(9420,5020),(9440,5021),(10420,42064),(10440,52064)] [] _ _ (ih_m_impl_patternVars fu (by omega) _ _ _ _ _ _ V17) ?_
 refine zf (zW (zd (za ?_)))
 refine zJ (zar C10 B11 hn_g6) ?_
 refine s_mv ?_
 refine zf ?_
 exact s_rn (fu,(g6+1),v17.1,v17.2) ⟨by first | omega | (dsimp only;omega),F13,by first | omega | (dsimp only;omega)⟩ [(5020,42064),(5021,52064)]
 refine zi (zd (za ?_))
 refine zG yA27 yS27 ?_
 iterate 4 refine s_mv ?_
 obtain ⟨v18,V18,F13⟩:=zc F12
 refine z4 [(9000,9000),(9001,9001),(9420,5020),(9440,5021),(10420,42064),(10440,52064)] [] _ _ (ih_m_impl_patternVars fu (by omega) _ _ _ _ _ _ V18) ?_
 refine zf (zW (zd (za ?_)))
 refine zJ (zar C10 B11 hn_g6) ?_
 refine s_mv ?_
 refine zf ?_
 exact s_rn (fu,(g6+1),v18.1,v18.2) ⟨by first | omega | (dsimp only;omega),F13,by first | omega | (dsimp only;omega)⟩ [(5020,42064),(5021,52064)]
 iterate 7 refine r_no rfl ?_
 refine zy ?_
 refine zf (zd (zaZ rfl (zi (zd (za ?_)))))
 refine zG yA27 yS27 ?_
 iterate 4 refine s_mv ?_
 obtain ⟨v19,V19,F10⟩:=zc F9
 refine z4 [(9000,9000),(9001,9001),(9420,5020),(9440,5021),(10420,42064),(10440,52064)] [] _ _ (ih_m_impl_patternVars fu (by omega) _ _ _ _ _ _ V19) ?_
 refine zf (zW (zd (za ?_)))
 refine zJ (zar C10 B11 hn_g6) ?_
 refine s_mv ?_
 refine zf ?_
 exact s_rn (fu,(g6+1),v19.1,v19.2) ⟨by first | omega | (dsimp only;omega),F10,by first | omega | (dsimp only;omega)⟩ [(5020,42064),(5021,52064)]
 refine zeV 9000 5020 10420 [.ar 10420] ?_
 refine zeV 9001 5021 10440 [.ar 10440] ?_
 refine zz (zq (zp (zr (zhC ?_))))
 cases F7
 exact zk _ [] Tryz.results140
 refine zi (zd (zb (za ?_)))
 refine s_fa zF ?_
 refine zu yA25 ?_
 refine zC yU25 ?_
 refine s_mv ?_
 refine zf (zd (zl ?_))
 refine zeV 9000 9420 5040 [.ar 5040] ?_
 refine zeV 9001 9440 5041 [.ar 5041] ?_
 refine zak [10,11,12,36,37,38,39,40,41,42,43,44,45,46,47,48,49,50,51,52,53,54,55,56,57,58,59,60,61,62,63,64,65] [5040,5041,9000,9001] [11,42064,52064] [5040,5041] (fun a:Nat × Int × (List Form) × (List Int)=>a.1) (fun a:Nat × Int × (List Form) × (List Int)=>[(36,.t (.sc (.int .i64 a.2.1)))]) (fun a:Nat × Int × (List Form) × (List Int)=>[(5040,.arr (a.2.2.1.map Form.row) 27 true),(5041,.arr (a.2.2.2.map rI) 3 true),(9000,.box [.ar 5040]),(9001,.box [.ar 5041])]) (fun a:Nat × Int × (List Form) × (List Int)=>a.1≤fu∧zV a.1 x1 x2 x3 a.2.1 a.2.2.1 a.2.2.2=some r∧0≤a.2.1) (fu,0,o1,o2) ⟨Nat.le_refl _,F2,by simp⟩ (by rfl) (by rfl) (fun _=>rfl) (zI (by conv=>lhs;whnf) (by rfl) zaX) (zL (by conv=>lhs;whnf) (by rfl) (zL (by conv=>lhs;whnf) (by rfl) (zL (by conv=>lhs;whnf) (by rfl) (zL (by conv=>lhs;whnf) (by rfl) zaK)))) (zbZ hC rfl) (by repeat (first | exact z6 rfl | refine zal rfl ?_ | refine zQ rfl ?_)) (by repeat (first | exact zay | exact zad rfl | refine zam rfl ?_ | refine zR rfl ?_)) ?_
 clear F2
 rintro ⟨fu,g20,g21,g22⟩ ⟨hl23,F3,hn_g20⟩
 dsimp only at hl23 F3 hn_g20 ⊢
 obtain _ | fu:=fu
 · rw [zV] at F3;cases F3
 rw [zV] at F3
 refine zb (za ?_)
 refine s_lt ?_
 refine zf (zd (zb ?_))
 refine zm F3 ?_ ?_<;>intro C24 F4
 refine zM 34 (fun B25=>?_)
 refine zi (zd (zb (zl (zb (za ?_)))))
 refine s_mv ?_
 obtain ⟨v26,V26,F5⟩:=zc F4
 refine zK Form.row V26 (Form.row_eq _) yE25 ?_
 refine zai yA27 yS27 ?_
 refine zU yZ27 ?_
 refine s_as ?_
 refine zab yS27 ?_
 refine zf (zd (zb (za ?_)))
 refine s_mv ?_
 refine s_as ?_
 refine zf (zd (zb (zb (za ?_))))
 refine s_mv ?_
 refine zJ (zar C24 B25 hn_g20) ?_
 refine s_fa zF ?_
 refine zu yA25 ?_
 refine zC yU25 ?_
 refine s_lt ?_
 refine s_mv ?_
 refine zo _ 48 F5 ?_ ?_<;>intro C27 F6
 refine s_fa zF ?_
 refine zu yA25 ?_
 refine s_mv ?_
 refine zJ (zar C24 B25 hn_g20) ?_
 obtain ⟨v28,V28,F7⟩:=zc F6
 refine zK Form.row V28 (Form.row_eq _) yE25 ?_
 refine zai yA27 yS27 ?_
 obtain ⟨v29,V29,F8⟩:=zc F7
 refine zv [] (zbM fu _ _ _ V29) ?_
 refine zA ?_
 refine zf (zd ?_)
 refine zm F8 ?_ ?_<;>intro C30 F9
 refine za ?_
 refine s_mv ?_
 refine zJ rfl ?_
 refine s_as ?_
 refine zf (zd (za ?_))
 refine zG yA27 yS27 ?_
 iterate 4 refine s_mv ?_
 obtain ⟨v31,V31,F10⟩:=zc F9
 refine z4 [(9000,9000),(9001,9001),(9420,5040),(9440,5041),(10420,42064),(10440,52064)] [] _ _ (ih_m_impl_patternVars fu (by omega) _ _ _ _ _ _ V31) ?_
 refine zf (zW (zd (za ?_)))
 refine zJ (zar C24 B25 hn_g20) ?_
 refine s_mv ?_
 refine zf ?_
 exact s_rn (fu,(g20+1),v31.1,v31.2) ⟨by first | omega | (dsimp only;omega),F10,by first | omega | (dsimp only;omega)⟩ [(5040,42064),(5041,52064)]
 refine zi (zd (za ?_))
 refine zG yA27 yS27 ?_
 iterate 4 refine s_mv ?_
 obtain ⟨v32,V32,F10⟩:=zc F9
 refine z4 [(9000,9000),(9001,9001),(9420,5040),(9440,5041),(10420,42064),(10440,52064)] [] _ _ (ih_m_impl_patternVars fu (by omega) _ _ _ _ _ _ V32) ?_
 refine zf (zW (zd (za ?_)))
 refine zJ (zar C24 B25 hn_g20) ?_
 refine s_mv ?_
 refine zf ?_
 exact s_rn (fu,(g20+1),v32.1,v32.2) ⟨by first | omega | (dsimp only;omega),F10,by first | omega | (dsimp only;omega)⟩ [(5040,42064),(5041,52064)]
 iterate 7 refine r_no rfl ?_
 refine zy ?_
 refine zf (zd (zaZ rfl (zi (zd (za ?_)))))
 refine zG yA27 yS27 ?_
 iterate 4 refine s_mv ?_
 obtain ⟨v33,V33,F7⟩:=zc F6
 refine z4 [(9000,9000),(9001,9001),(9420,5040),(9440,5041),(10420,42064),(10440,52064)] [] _ _ (ih_m_impl_patternVars fu (by omega) _ _ _ _ _ _ V33) ?_
 refine zf (zW (zd (za ?_)))
 refine zJ (zar C24 B25 hn_g20) ?_
 refine s_mv ?_
 refine zf ?_
 exact s_rn (fu,(g20+1),v33.1,v33.2) ⟨by first | omega | (dsimp only;omega),F7,by first | omega | (dsimp only;omega)⟩ [(5040,42064),(5041,52064)]
 refine zeV 9000 5040 10420 [.ar 10420] ?_
 refine zeV 9001 5041 10440 [.ar 10440] ?_
 refine zz (zq (zp (zr (zhC ?_))))
 cases F4
 exact zk _ [] Tryz.results140
theorem m_impl_patternVars_all (fuel:Nat):zeg fuel:=by
 induction fuel using Nat.strongRecOn with
 | _ N ih =>
   cases N with
   | zero=>exact (by intro x1 x2 x3 o1 o2 r h;rw [zbh] at h;cases h)
   | succ fu=>exact m_impl_patternVars_st fu (fun k hk=>(ih k (by omega)))
theorem m_impl_patternVars_ok (fuel:Nat):zeg fuel:=(m_impl_patternVars_all fuel)
def m_impl_varsOf_AC (fuel:Nat):Prop:=∀ (x1:Form) (x2:(List Form)) (r:((List Form) × (List Int))),zeR fuel x1 x2=some r→AC Tryz.prog 70 [.ag [.t (.sc (.int .i64 x1.kind)),.t (.sc (.str x1.name)),.t (.sc (.int .i64 x1.n)),.t (.sl (x1.scopes.map rI)),.t (.sl (x1.kids.map Form.row))],.t (.sl (x2.map Form.row))] (objs []) (.tp [.ar 9200,.t (.sl (r.2.map rI))]) (objs [(9200,.arr (r.1.map Form.row) 27 true)])
theorem zhJ (fuel:Nat):m_impl_varsOf_AC fuel:=by
 intro x1 x2 r F0
 unfold zeR at F0
 refine AC_i [.ar 9200,.t (.sl (r.2.map rI))] Tryz.func70 rfl Tryz.ntmps70 ?_
 intro C hC
 refine zb (za ?_)
 refine zaN ?_
 refine s_as ?_
 refine s_as ?_
 refine zf (zd (zb (za ?_)))
 refine s_bs Form.row ([]:List Form) yP25 yR27 ?_
 refine s_bs rI ([]:List Int) yP24 yR3 ?_
 refine zU yZ25 ?_
 refine zU yZ24 ?_
 refine zab yS25 ?_
 refine zab yS24 ?_
 refine zf (zd (zb (za ?_)))
 refine zG yA27 yS27 ?_
 refine s_mv ?_
 obtain ⟨v1,V1,F1⟩:=zc F0
 refine z4 [(9000,6),(9001,7),(9420,8),(9440,9),(10420,42012),(10440,52012)] [] _ _ (m_impl_patternVars_ok fuel _ _ _ _ _ _ V1) ?_
 refine zf (zd (zb ?_))
 refine zP yMix (by kernel_rfl) ?_
 refine zu yA25 ?_
 refine zu yA24 ?_
 refine s_as ?_
 refine s_as ?_
 refine zah (by kernel_rfl) ?_
 refine zd ?_
 refine zeI 4 42012 9200 (by conv=>lhs;whnf) (by conv=>lhs;whnf) rfl ?_
 refine zh (zn ?_)
 cases F1
 exact zk _ [52012] Tryz.results70
def m_impl_PatternValid_AC (fuel:Nat):Prop:=∀ (x1:Form) (x2:(List Form)) (r:Bool),zcZ fuel x1 x2=some r→AC Tryz.prog 16 [.ag [.t (.sc (.int .i64 x1.kind)),.t (.sc (.str x1.name)),.t (.sc (.int .i64 x1.n)),.t (.sl (x1.scopes.map rI)),.t (.sl (x1.kids.map Form.row))],.t (.sl (x2.map Form.row))] noOb (.t (.sc (.bool r))) noOb
theorem zhg (fuel:Nat):m_impl_PatternValid_AC fuel:=by
 intro x1 x2 r F0
 unfold zcZ at F0
 refine AC_i [.t (.sc (.bool r))] Tryz.func16 rfl Tryz.ntmps16 ?_
 intro C hC
 refine zb (za ?_)
 refine zaN ?_
 refine s_as ?_
 refine zf (zd (zb (zb (za ?_))))
 refine zG yA27 yS27 ?_
 obtain ⟨v1,V1,F1⟩:=zc F0
 refine zv [] (zbO fuel _ _ V1) ?_
 refine zaG ?_
 refine s_mv ?_
 refine zo _ 12 F1 ?_ ?_<;>intro C2 F2
 iterate 3 refine r_no rfl ?_
 refine zA ?_
 refine s_mv ?_
 refine r_no rfl (r_no rfl ?_)
 refine zA ?_
 refine s_mv ?_
 iterate 3 refine r_no rfl ?_
 refine zA ?_
 refine zf (zd (zT rfl (zb (za ?_))))
 refine s_as ?_
 refine zf (zd (zh (zg (zn ?_))))
 cases F2
 exact zk [] [] Tryz.results16
 refine s_mv ?_
 obtain ⟨v3,V3,F3⟩:=zc F2
 refine zv [] (zhP fuel _ _ V3) ?_
 refine zaG ?_
 refine zy ?_
 refine s_mv ?_
 refine zo _ 17 F3 ?_ ?_<;>intro C4 F4
 refine r_no rfl (r_no rfl ?_)
 refine zA ?_
 refine s_mv ?_
 iterate 3 refine r_no rfl ?_
 refine zA ?_
 refine zf (zd (zT rfl (zb (za ?_))))
 refine s_as ?_
 refine zf (zd (zh (zg (zn ?_))))
 cases F4
 exact zk [] [] Tryz.results16
 refine zG yA27 yS27 ?_
 obtain ⟨v5,V5,F5⟩:=zc F4
 refine zv [] (zbM fuel _ _ _ V5) ?_
 refine zy ?_
 refine s_mv ?_
 refine zo _ 21 F5 ?_ ?_<;>intro C6 F6
 iterate 3 refine r_no rfl ?_
 refine zA ?_
 refine zf (zd (zT rfl (zb (za ?_))))
 refine s_as ?_
 refine zf (zd (zh (zg (zn ?_))))
 cases F6
 exact zk [] [] Tryz.results16
 refine zG yA27 yS27 ?_
 obtain ⟨v7,V7,F7⟩:=zc F6
 refine zv [] (m_impl_dotsOk_ok fuel _ _ _ V7) ?_
 refine zaG ?_
 refine zy ?_
 refine zf (zd ?_)
 refine zm F7 ?_ ?_<;>intro C8 F8
 refine zb (za ?_)
 refine s_as ?_
 refine zf (zd (zh (zg (zn ?_))))
 cases F8
 exact zk [] [] Tryz.results16
 refine zi (zd (zb (za ?_)))
 refine zG yA27 yS27 ?_
 refine s_mv ?_
 obtain ⟨v9,V9,F9⟩:=zc F8
 refine z4 [(9200,2029)] [] _ _ (zhJ fuel _ _ _ V9) ?_
 refine s_mv ?_
 refine za4 ?_
 refine za4 ?_
 refine s_as ?_
 refine s_as ?_
 refine zf (zd (zb (zb (za ?_))))
 refine s_mv ?_
 refine zhc yU25 ?_
 refine s_mv ?_
 refine zf (zd (zl ?_))
 refine awp_frz 2029 (by conv=>lhs;whnf) ?_
 refine zaP (β:=Int × (List Form)) [4,7,8,34,35,36,37,38,39,40,41,42,43,44,45,46,47,48,49,50,51] [2029] [8] (fun a=>[(34,.t (.sc (.int .i64 a.2.1)))]) (fun a=>[(2029,.arr (a.2.2.map Form.row) 27 false)]) (fun a=>a.1≤fuel∧zaI a.1 v9 a.2.1 a.2.2=some r) (fuel,0,v9.1) ⟨Nat.le_refl _,F9⟩ ?_
 clear F9
 rintro ⟨fu,g10,g11⟩ ⟨hl12,F10⟩
 dsimp only at hl12 F10 ⊢
 obtain _ | fu:=fu
 · rw [zaI] at F10;cases F10
 rw [zaI] at F10
 refine zb (za ?_)
 refine s_lt ?_
 refine zf (zd (zb ?_))
 refine zm F10 ?_ ?_<;>intro C13 F11
 refine zi (zd (zb (zl (zb (za ?_)))))
 refine s_mv ?_
 obtain ⟨v14,V14,F12⟩:=zc F11
 refine ziy Form.row V14 yE25 ?_
 refine s_lAN Form.row V14 (Form.row_eq _) yA27 yS27 ?_
 refine zU yZ27 ?_
 refine s_as ?_
 refine zab yS27 ?_
 refine zf (zd (zb ?_))
 refine zP yMix (by kernel_rfl) ?_
 refine s_mv ?_
 refine s_mv ?_
 obtain ⟨v15,V15,F13⟩:=zc F12
 refine s_sl01 Form.row (fun y=>Form.row_len y) V15 yU25 yE25 ?_
 refine zG yA27 yS27 ?_
 obtain ⟨v16,V16,F14⟩:=zc F13
 refine zv [] (zhr fu _ _ _ V16) ?_
 refine s_mv ?_
 refine zo _ 44 F14 ?_ ?_<;>intro C17 F15
 iterate 5 refine r_no rfl ?_
 refine zA ?_
 refine zah (by kernel_rfl) ?_
 refine zd (zT rfl (zb (za ?_)))
 refine s_as ?_
 refine zf (zd (zh (zj (zg (zw (zj (zg (zn ?_))))))))
 cases F15
 exact zk [] [] Tryz.results16
 refine s_mv ?_
 refine s_mv ?_
 obtain ⟨v18,V18,F16⟩:=zc F15
 refine zK rI V18 rfl yE24 ?_
 refine zu yA3 ?_
 refine s_gt ?_
 refine zy ?_
 refine zah (by kernel_rfl) ?_
 refine zd ?_
 refine zm F16 ?_ ?_<;>intro C19 F17
 refine zb (za ?_)
 refine s_as ?_
 refine zf (zd (zh (zj (zg (zw (zj (zg (zn ?_))))))))
 cases F17
 exact zk [] [] Tryz.results16
 refine zi (zW (zd (za ?_)))
 refine zJ rfl ?_
 refine s_mv ?_
 refine zf ?_
 exact s_rn (fu,(w64 (g10+1)),g11) ⟨by first | omega | (dsimp only;omega),F17⟩
 refine zz (zq (zp (zr (zd (zb (za ?_))))))
 refine s_mv ?_
 refine zhc yU25 ?_
 refine s_le ?_
 refine s_as ?_
 refine zf (zd (zh (zn ?_)))
 cases F11
 exact zk [] [] Tryz.results16
def m_slices_Index_int_AC (fuel:Nat):Prop:=∀ (x1:(List Int)) (x2:Int) (r:Int),zfy fuel x1 x2=some r→AC Tryz.prog 221 [.t (.sl (x1.map rI)),.t (.sc (.int .i64 x2))] noOb (.t (.sc (.int .i64 r))) noOb
theorem m_slices_Index_int_ok (fuel:Nat):m_slices_Index_int_AC fuel:=by
 intro x1 x2 r F0
 unfold zfy at F0
 refine AC_i [.t (.sc (.int .i64 r))] Tryz.func221 rfl Tryz.ntmps221 ?_
 intro C hC
 refine zb (za ?_)
 refine s_as ?_
 refine zf (zd (zb (zb (za ?_))))
 refine s_mv ?_
 refine zC yU24 ?_
 refine s_mv ?_
 refine zf (zd (zl ?_))
 refine zaP (β:=Int) [4,5,8,9,10,11,12,13,14,15,16,17,18] [] [] (fun a=>[(8,.t (.sc (.int .i64 a.2)))]) (fun a=>[]) (fun a=>a.1≤fuel∧zbK a.1 x1 x2 a.2=some r∧0≤a.2) (fuel,0) ⟨Nat.le_refl _,F0,by simp⟩ ?_
 clear F0
 rintro ⟨fu,g1⟩ ⟨hl2,F1,hn_g1⟩
 dsimp only at hl2 F1 hn_g1 ⊢
 obtain _ | fu:=fu
 · rw [zbK] at F1;cases F1
 rw [zbK] at F1
 refine zb (za ?_)
 refine s_lt ?_
 refine zf (zd (zb ?_))
 refine zm F1 ?_ ?_<;>intro C3 F2
 refine zM 0 (fun B4=>?_)
 refine zi (zd (zb (zl (zb (za ?_)))))
 refine s_mv ?_
 refine s_as ?_
 refine zf (zd (zb (za ?_)))
 iterate 3 refine s_mv ?_
 obtain ⟨v5,V5,F3⟩:=zc F2
 refine zK rI V5 rfl yE24 ?_
 refine zu yA3 ?_
 refine s_eq ?_
 refine zf (zd ?_)
 refine zm F3 ?_ ?_<;>intro C6 F4
 refine zb (za ?_)
 refine s_mv ?_
 refine s_as ?_
 refine zf (zd (zh (zj (zg (zw (zj (zg (zn ?_))))))))
 cases F4
 exact zk [] [] Tryz.results221
 refine zi (zW (zd (za ?_)))
 refine zJ (zar C3 B4 hn_g1) ?_
 refine s_mv ?_
 refine zf ?_
 exact s_rn (fu,(g1+1)) ⟨by first | omega | (dsimp only;omega),F4,by first | omega | (dsimp only;omega)⟩
 refine zz (zq (zp (zr (zd (zb (za ?_))))))
 refine s_as ?_
 refine zf (zd (zh (zn ?_)))
 cases F2
 exact zk [] [] Tryz.results221
def ziT (fuel:Nat):Prop:=∀ (x1:(List Int)) (x2:Int) (r:Bool),zdd fuel x1 x2=some r→AC Tryz.prog 219 [.t (.sl (x1.map rI)),.t (.sc (.int .i64 x2))] noOb (.t (.sc (.bool r))) noOb
theorem ziS (fuel:Nat):ziT fuel:=by
 intro x1 x2 r F0
 unfold zdd at F0
 refine AC_i [.t (.sc (.bool r))] Tryz.func219 rfl Tryz.ntmps219 ?_
 intro C hC
 refine zb (za ?_)
 refine s_as ?_
 refine zf (zd (zb (za ?_)))
 refine s_mv ?_
 refine s_mv ?_
 obtain ⟨v1,V1,F1⟩:=zc F0
 refine zv [] (m_slices_Index_int_ok fuel _ _ _ V1) ?_
 refine s_ge ?_
 refine s_as ?_
 refine zf (zd (zh (zn ?_)))
 cases F1
 exact zk [] [] Tryz.results219
def ziW (fuel:Nat):Prop:=∀ (x1:Int) (o1:(List Int)) (r:Bool),zdh fuel x1 o1=some r→AC Tryz.prog 218 [.t (.sc (.int .i64 x1)),.rf 9000 0] (objs [(9000,.box [.t (.sl (o1.map rI))])]) (.t (.sc (.bool r))) (objs [(9000,.box [.t (.sl (o1.map rI))])])
theorem ziV (fuel:Nat):ziW fuel:=by
 intro x1 o1 r F0
 unfold zdh at F0
 refine AC_i [.t (.sc (.bool r))] Tryz.func218 rfl Tryz.ntmps218 ?_
 intro C hC
 refine zb (za ?_)
 refine s_as ?_
 refine zf (zd (zb (za ?_)))
 refine zu yA24 ?_
 refine s_mv ?_
 obtain ⟨v1,V1,F1⟩:=zc F0
 refine zv [] (ziS fuel _ _ _ V1) ?_
 refine zaG ?_
 refine s_as ?_
 refine zf (zd (zh (zn ?_)))
 cases F1
 exact zk _ [] Tryz.results218
def zfE (fuel:Nat):Prop:=∀ (x1:(List Int)) (o1:(List Int)) (r:Int),za8 fuel x1 o1=some r→AC Tryz.prog 217 [.t (.sl (x1.map rI)),.fn 218 [.rf 9000 0]] (objs [(9000,.box [.t (.sl (o1.map rI))])]) (.t (.sc (.int .i64 r))) (objs [(9000,.box [.t (.sl (o1.map rI))])])
theorem zfD (fuel:Nat):zfE fuel:=by
 intro x1 o1 r F0
 unfold za8 at F0
 refine AC_i [.t (.sc (.int .i64 r))] Tryz.func217 rfl Tryz.ntmps217 ?_
 intro C hC
 refine zb (za ?_)
 refine s_as ?_
 refine zf (zd (zb (zb (za ?_))))
 refine s_mv ?_
 refine zC yU24 ?_
 refine s_mv ?_
 refine zf (zd (zl ?_))
 refine zaP (β:=Int) [4,5,8,9,10,11,12,13,14,15,16,17,18] [] [] (fun a=>[(8,.t (.sc (.int .i64 a.2)))]) (fun a=>[]) (fun a=>a.1≤fuel∧zY a.1 x1 o1 a.2=some r∧0≤a.2) (fuel,0) ⟨Nat.le_refl _,F0,by simp⟩ ?_
 clear F0
 rintro ⟨fu,g1⟩ ⟨hl2,F1,hn_g1⟩
 dsimp only at hl2 F1 hn_g1 ⊢
 obtain _ | fu:=fu
 · rw [zY] at F1;cases F1
 rw [zY] at F1
 refine zb (za ?_)
 refine s_lt ?_
 refine zf (zd (zb ?_))
 refine zm F1 ?_ ?_<;>intro C3 F2
 refine zM 0 (fun B4=>?_)
 refine zi (zd (zb (zl (zb (za ?_)))))
 refine s_mv ?_
 refine s_as ?_
 refine zf (zd (zb (za ?_)))
 iterate 3 refine s_mv ?_
 obtain ⟨v5,V5,F3⟩:=zc F2
 refine zK rI V5 rfl yE24 ?_
 refine zu yA3 ?_
 obtain ⟨v6,V6,F4⟩:=zc F3
 refine z4 [(9000,9000)] [] _ _ (ziV fu _ _ _ V6) ?_
 refine zf (zd ?_)
 refine zm F4 ?_ ?_<;>intro C7 F5
 refine zb (za ?_)
 refine s_mv ?_
 refine s_as ?_
 refine zf (zd (zh (zj (zg (zw (zj (zg (zn ?_))))))))
 cases F5
 exact zk _ [] Tryz.results217
 refine zi (zW (zd (za ?_)))
 refine zJ (zar C3 B4 hn_g1) ?_
 refine s_mv ?_
 refine zf ?_
 exact s_rn (fu,(g1+1)) ⟨by first | omega | (dsimp only;omega),F5,by first | omega | (dsimp only;omega)⟩
 refine zz (zq (zp (zr (zd (zb (za ?_))))))
 refine s_as ?_
 refine zf (zd (zh (zn ?_)))
 cases F2
 exact zk _ [] Tryz.results217
def zeP (fuel:Nat):Prop:=∀ (x1:(List Int)) (o1:(List Int)) (r:Bool),zaO fuel x1 o1=some r→AC Tryz.prog 209 [.t (.sl (x1.map rI)),.fn 218 [.rf 9000 0]] (objs [(9000,.box [.t (.sl (o1.map rI))])]) (.t (.sc (.bool r))) (objs [(9000,.box [.t (.sl (o1.map rI))])])
theorem zeO (fuel:Nat):zeP fuel:=by
 intro x1 o1 r F0
 unfold zaO at F0
 refine AC_i [.t (.sc (.bool r))] Tryz.func209 rfl Tryz.ntmps209 ?_
 intro C hC
 refine zb (za ?_)
 refine s_as ?_
 refine zf (zd (zb (za ?_)))
 refine s_mv ?_
 refine s_mv ?_
 obtain ⟨v1,V1,F1⟩:=zc F0
 refine z4 [(9000,9000)] [] _ _ (zfD fuel _ _ _ V1) ?_
 refine s_ge ?_
 refine s_as ?_
 refine zf (zd (zh (zn ?_)))
 cases F1
 exact zk _ [] Tryz.results209
def m_impl_ScopesWithin_AC (fuel:Nat):Prop:=∀ (x1:(List Int)) (x2:(List Int)) (r:Bool),zcY fuel x1 x2=some r→AC Tryz.prog 211 [.t (.sl (x1.map rI)),.t (.sl (x2.map rI))] noOb (.t (.sc (.bool r))) noOb
theorem zhf (fuel:Nat):m_impl_ScopesWithin_AC fuel:=by
 intro x1 x2 r F0
 unfold zcY at F0
 refine AC_i [.t (.sc (.bool r))] Tryz.func211 rfl Tryz.ntmps211 ?_
 intro C hC
 refine zb (za ?_)
 refine zaN ?_
 refine s_as ?_
 refine zf (zd (zb (za ?_)))
 refine s_mv ?_
 refine s_fn ?_
 obtain ⟨v1,V1,F1⟩:=zc F0
 refine z4 [(9000,3)] [] _ _ (zeO fuel _ _ _ V1) ?_
 refine zaG ?_
 refine s_as ?_
 refine zf (zd (zh (zn ?_)))
 cases F1
 exact zk [] [] Tryz.results211
def m_impl_fitting_AC (fuel:Nat):Prop:=∀ (x1:(List Bind)) (x2:Form) (r:(List Int)),zgo fuel x1 x2=some r→AC Tryz.prog 208 [.t (.sl (x1.map Bind.row)),.ag [.t (.sc (.int .i64 x2.kind)),.t (.sc (.str x2.name)),.t (.sc (.int .i64 x2.n)),.t (.sl (x2.scopes.map rI)),.t (.sl (x2.kids.map Form.row))]] noOb (.t (.sl (r.map rI))) noOb
theorem m_impl_fitting_ok (fuel:Nat):m_impl_fitting_AC fuel:=by
 intro x1 x2 r F0
 unfold zgo at F0
 refine AC_i [.t (.sl (r.map rI))] Tryz.func208 rfl Tryz.ntmps208 ?_
 intro C hC
 refine zb (za ?_)
 refine zaN ?_
 refine s_as ?_
 refine zf (zd (zb (za ?_)))
 refine s_bs rI ([]:List Int) yP24 yR3 ?_
 refine s_as ?_
 refine zf (zd (zb (zb (za ?_))))
 refine s_mv ?_
 refine zC yU23 ?_
 refine s_mv ?_
 refine zf (zd (zl ?_))
 refine zeI 5 8 5020 (by conv=>lhs;whnf) (by conv=>lhs;whnf) rfl ?_
 refine zak [5,6,7,11,12,13,14,15,16,17,18,19,20,21,22,23,24,25,26,27,28,29,30,31,32] [5020] [7,30,31] [5020] (fun a:Nat × (List Int) × Int=>a.1) (fun a:Nat × (List Int) × Int=>[(5,.ar 5020),(11,.t (.sc (.int .i64 a.2.2)))]) (fun a:Nat × (List Int) × Int=>[(5020,.arr (a.2.1.map rI) 3 true)]) (fun a:Nat × (List Int) × Int=>a.1≤fuel∧zbY a.1 x1 x2 a.2.1 a.2.2=some r∧0≤a.2.2) (fuel,([]:List Int),0) ⟨Nat.le_refl _,F0,by simp⟩ (by rfl) (by rfl) (fun _=>rfl) (zI (by conv=>lhs;whnf) (by rfl) (zI (by conv=>lhs;whnf) (by rfl) zaX)) (zL (by conv=>lhs;whnf) (by rfl) zaK) (zbZ hC rfl) (by repeat (first | exact z6 rfl | refine zal rfl ?_ | refine zQ rfl ?_)) (by repeat (first | exact zay | exact zad rfl | refine zam rfl ?_ | refine zR rfl ?_)) ?_
 clear F0
 rintro ⟨fu,g1,g2⟩ ⟨hl3,F1,hn_g2⟩
 dsimp only at hl3 F1 hn_g2 ⊢
 obtain _ | fu:=fu
 · rw [zbY] at F1;cases F1
 rw [zbY] at F1
 refine zb (za ?_)
 refine s_lt ?_
 refine zf (zd (zb ?_))
 refine zm F1 ?_ ?_<;>intro C4 F2
 refine zM 0 (fun B5=>?_)
 refine zi (zd (zb (zl (zb (za ?_)))))
 refine s_mv ?_
 obtain ⟨v6,V6,F3⟩:=zc F2
 refine zK Bind.row V6 (Bind.row_eq _) yE23 ?_
 refine zai yA93 yS93 ?_
 refine zU yZ93 ?_
 refine s_as ?_
 refine zab yS93 ?_
 refine zf (zd ?_)
 refine za2 (α:=Nat × Bool) [16,17,18,19,20,21,22,23,24,25,26,27] [] [] (fun a=>[(27,.t (.sc (.bool a.2)))]) (fun a=>[]) (fun a=>a.1≤fu∧zcX a.1 x1 x2 g1 g2 a.2=some r) ?_ ?_
 refine za ?_
 refine s_fa yF93_0 ?_
 refine zu yA9 ?_
 refine s_fa zcp ?_
 refine zu yA9 ?_
 refine zhv ?_
 refine s_mv ?_
 refine zo _ 21 F3 ?_ ?_<;>intro C7 F4
 refine s_fa yF93_1 ?_
 refine zu yA24 ?_
 refine s_fa zf9 ?_
 refine zu yA24 ?_
 obtain ⟨v8,V8,F5⟩:=zc F4
 refine zv [] (zhf fu _ _ _ V8) ?_
 refine zA ?_
 refine zf ?_
 exact s_jn (fu,v8) ⟨by first | omega | (dsimp only;omega),F5⟩
 iterate 5 refine r_no rfl ?_
 refine zy ?_
 refine zf ?_
 exact s_jn (fu,false) ⟨by first | omega | (dsimp only;omega),F4⟩
 clear F3
 rintro ⟨fu,g9⟩ ⟨hl10,F4⟩
 dsimp only at hl10 F4 ⊢
 obtain _ | fu:=fu
 · rw [zcX] at F4;cases F4
 rw [zcX] at F4
 refine zm F4 ?_ ?_<;>intro C11 F5
 refine za ?_
 refine s_mv ?_
 refine s_mv ?_
 refine s_bs rI [g2] yP24 yR3 ?_
 obtain ⟨hk12,F6⟩:=zac F5
 refine zel rI (fun _=>rfl) hk12 yP24 ?_
 refine s_as ?_
 refine zf (zW (zd (za ?_)))
 refine zJ (zar C4 B5 hn_g2) ?_
 refine s_mv ?_
 refine zf ?_
 exact s_rn (fu,(g1++[g2]),(g2+1)) ⟨by first | omega | (dsimp only;omega),F6,by first | omega | (dsimp only;omega)⟩ [(5020,31)]
 refine zi (zW (zd (za ?_)))
 refine zJ (zar C4 B5 hn_g2) ?_
 refine s_mv ?_
 refine zf ?_
 exact s_rn (fu,g1,(g2+1)) ⟨by first | omega | (dsimp only;omega),F5,by first | omega | (dsimp only;omega)⟩
 refine zz (zq (zp (zr (zd (zb (za ?_))))))
 refine s_mv ?_
 refine s_as ?_
 refine zf (zd (zh (zn ?_)))
 cases F2
 exact zk [] [5020] Tryz.results208
def m_impl_bound_1_AC (fuel:Nat):Prop:=∀ (x1:Int) (o1:(List Bind)) (o2:Int) (r:Bool),zgq fuel x1 o1 o2=some r→AC Tryz.prog 210 [.t (.sc (.int .i64 x1)),.rf 9000 0,.rf 9001 0] (objs [(9000,.box [.t (.sl (o1.map Bind.row))]),(9001,.box [.t (.sc (.int .i64 o2))])]) (.t (.sc (.bool r))) (objs [(9000,.box [.t (.sl (o1.map Bind.row))]),(9001,.box [.t (.sc (.int .i64 o2))])])
theorem m_impl_bound_1_ok (fuel:Nat):m_impl_bound_1_AC fuel:=by
 intro x1 o1 o2 r F0
 unfold zgq at F0
 refine AC_i [.t (.sc (.bool r))] Tryz.func210 rfl Tryz.ntmps210 ?_
 intro C hC
 refine zb (za ?_)
 refine s_as ?_
 refine zf (zd (zb ?_))
 refine zP yMix (by kernel_rfl) ?_
 refine zu yA23 ?_
 refine s_mv ?_
 obtain ⟨v1,V1,F1⟩:=zc F0
 refine zK Bind.row V1 (Bind.row_eq _) yE23 ?_
 refine s_fa yF93_1 ?_
 refine zu yA24 ?_
 refine zu yA23 ?_
 refine zu yA3 ?_
 obtain ⟨v2,V2,F2⟩:=zc F1
 refine zK Bind.row V2 (Bind.row_eq _) yE23 ?_
 refine s_fa yF93_1 ?_
 refine zu yA24 ?_
 obtain ⟨v3,V3,F3⟩:=zc F2
 refine zv [] (zhf fuel _ _ _ V3) ?_
 refine zaG ?_
 refine s_as ?_
 refine zah (by kernel_rfl) ?_
 refine zd (zh (zn ?_))
 cases F3
 exact zk _ [] Tryz.results210
def zg1 (fuel:Nat):Prop:=∀ (x1:(List Int)) (o1:(List Bind)) (o2:Int) (r:Int),zb0 fuel x1 o1 o2=some r→AC Tryz.prog 217 [.t (.sl (x1.map rI)),.fn 210 [.rf 9000 0,.rf 9001 0]] (objs [(9000,.box [.t (.sl (o1.map Bind.row))]),(9001,.box [.t (.sc (.int .i64 o2))])]) (.t (.sc (.int .i64 r))) (objs [(9000,.box [.t (.sl (o1.map Bind.row))]),(9001,.box [.t (.sc (.int .i64 o2))])])
theorem zg0 (fuel:Nat):zg1 fuel:=by
 intro x1 o1 o2 r F0
 unfold zb0 at F0
 refine AC_i [.t (.sc (.int .i64 r))] Tryz.func217 rfl Tryz.ntmps217 ?_
 intro C hC
 refine zb (za ?_)
 refine s_as ?_
 refine zf (zd (zb (zb (za ?_))))
 refine s_mv ?_
 refine zC yU24 ?_
 refine s_mv ?_
 refine zf (zd (zl ?_))
 refine zaP (β:=Int) [4,5,8,9,10,11,12,13,14,15,16,17,18] [] [] (fun a=>[(8,.t (.sc (.int .i64 a.2)))]) (fun a=>[]) (fun a=>a.1≤fuel∧zan a.1 x1 o1 o2 a.2=some r∧0≤a.2) (fuel,0) ⟨Nat.le_refl _,F0,by simp⟩ ?_
 clear F0
 rintro ⟨fu,g1⟩ ⟨hl2,F1,hn_g1⟩
 dsimp only at hl2 F1 hn_g1 ⊢
 obtain _ | fu:=fu
 · rw [zan] at F1;cases F1
 rw [zan] at F1
 refine zb (za ?_)
 refine s_lt ?_
 refine zf (zd (zb ?_))
 refine zm F1 ?_ ?_<;>intro C3 F2
 refine zM 0 (fun B4=>?_)
 refine zi (zd (zb (zl (zb (za ?_)))))
 refine s_mv ?_
 refine s_as ?_
 refine zf (zd (zb (za ?_)))
 iterate 3 refine s_mv ?_
 obtain ⟨v5,V5,F3⟩:=zc F2
 refine zK rI V5 rfl yE24 ?_
 refine zu yA3 ?_
 obtain ⟨v6,V6,F4⟩:=zc F3
 refine z4 [(9000,9000),(9001,9001)] [] _ _ (m_impl_bound_1_ok fu _ _ _ _ V6) ?_
 refine zf (zd ?_)
 refine zm F4 ?_ ?_<;>intro C7 F5
 refine zb (za ?_)
 refine s_mv ?_
 refine s_as ?_
 refine zf (zd (zh (zj (zg (zw (zj (zg (zn ?_))))))))
 cases F5
 exact zk _ [] Tryz.results217
 refine zi (zW (zd (za ?_)))
 refine zJ (zar C3 B4 hn_g1) ?_
 refine s_mv ?_
 refine zf ?_
 exact s_rn (fu,(g1+1)) ⟨by first | omega | (dsimp only;omega),F5,by first | omega | (dsimp only;omega)⟩
 refine zz (zq (zp (zr (zd (zb (za ?_))))))
 refine s_as ?_
 refine zf (zd (zh (zn ?_)))
 cases F2
 exact zk _ [] Tryz.results217
def zgi (fuel:Nat):Prop:=∀ (x1:(List Int)) (o1:(List Bind)) (o2:Int) (r:Bool),zbG fuel x1 o1 o2=some r→AC Tryz.prog 209 [.t (.sl (x1.map rI)),.fn 210 [.rf 9000 0,.rf 9001 0]] (objs [(9000,.box [.t (.sl (o1.map Bind.row))]),(9001,.box [.t (.sc (.int .i64 o2))])]) (.t (.sc (.bool r))) (objs [(9000,.box [.t (.sl (o1.map Bind.row))]),(9001,.box [.t (.sc (.int .i64 o2))])])
theorem zgh (fuel:Nat):zgi fuel:=by
 intro x1 o1 o2 r F0
 unfold zbG at F0
 refine AC_i [.t (.sc (.bool r))] Tryz.func209 rfl Tryz.ntmps209 ?_
 intro C hC
 refine zb (za ?_)
 refine s_as ?_
 refine zf (zd (zb (za ?_)))
 refine s_mv ?_
 refine s_mv ?_
 obtain ⟨v1,V1,F1⟩:=zc F0
 refine z4 [(9000,9000),(9001,9001)] [] _ _ (zg0 fuel _ _ _ _ V1) ?_
 refine s_ge ?_
 refine s_as ?_
 refine zf (zd (zh (zn ?_)))
 cases F1
 exact zk _ [] Tryz.results209
def m_impl_bound_AC (fuel:Nat):Prop:=∀ (x1:(List Bind)) (x2:Form) (r:(Int × Int)),zhB fuel x1 x2=some r→AC Tryz.prog 200 [.t (.sl (x1.map Bind.row)),.ag [.t (.sc (.int .i64 x2.kind)),.t (.sc (.str x2.name)),.t (.sc (.int .i64 x2.n)),.t (.sl (x2.scopes.map rI)),.t (.sl (x2.kids.map Form.row))]] noOb (.tp [.t (.sc (.int .i64 r.1)),.t (.sc (.int .i64 r.2))]) noOb
theorem m_impl_bound_ok (fuel:Nat):m_impl_bound_AC fuel:=by
 intro x1 x2 r F0
 unfold zhB at F0
 refine AC_i [.t (.sc (.int .i64 r.1)),.t (.sc (.int .i64 r.2))] Tryz.func200 rfl Tryz.ntmps200 ?_
 intro C hC
 refine zb (za ?_)
 refine zaN ?_
 refine zaN ?_
 refine s_as ?_
 refine s_as ?_
 refine zf (zd (zb (za ?_)))
 refine zu yA23 ?_
 refine zG yA27 yS27 ?_
 obtain ⟨v1,V1,F1⟩:=zc F0
 refine zv [] (m_impl_fitting_ok fuel _ _ _ V1) ?_
 refine s_as ?_
 refine zf (zd (zb (zb (za ?_))))
 refine s_mv ?_
 refine zC yU24 ?_
 refine s_eq ?_
 refine zf (zd ?_)
 refine zm F1 ?_ ?_<;>intro C2 F2
 refine zb (za ?_)
 refine s_as ?_
 refine s_as ?_
 refine zf (zd (zh (zg (zn ?_))))
 cases F2
 exact zk [] [] Tryz.results200
 refine zi (zd (zb (zb (za ?_))))
 refine s_mv ?_
 refine zC yU24 ?_
 refine s_mv ?_
 refine zf (zd (zl ?_))
 refine zaP (β:=Int) [4,5,8,17,18,19,20,21,22,23,24,25,26] [] [8] (fun a=>[(17,.t (.sc (.int .i64 a.2)))]) (fun a=>[]) (fun a=>a.1≤fuel∧zdg a.1 x1 v1 a.2=some r∧0≤a.2) (fuel,0) ⟨Nat.le_refl _,F2,by simp⟩ ?_
 clear F2
 rintro ⟨fu,g3⟩ ⟨hl4,F3,hn_g3⟩
 dsimp only at hl4 F3 hn_g3 ⊢
 obtain _ | fu:=fu
 · rw [zdg] at F3;cases F3
 rw [zdg] at F3
 refine zb (za ?_)
 refine s_lt ?_
 refine zf (zd (zb ?_))
 refine zm F3 ?_ ?_<;>intro C5 F4
 refine zM 6 (fun B6=>?_)
 refine zi (zd (zb (zl (zb (za ?_)))))
 obtain ⟨v7,V7,F5⟩:=zc F4
 refine zK rI V7 rfl yE24 ?_
 refine zu yA3 ?_
 refine zU yZ3 ?_
 refine zab yS3 ?_
 refine zf (zd (zb (za ?_)))
 refine s_mv ?_
 refine s_fn ?_
 obtain ⟨v8,V8,F6⟩:=zc F5
 refine z4 [(9000,2),(9001,8)] [] _ _ (zgh fu _ _ _ _ V8) ?_
 refine zaG ?_
 refine zf (zd ?_)
 refine zm F6 ?_ ?_<;>intro C9 F7
 refine zb (za ?_)
 refine zu yA3 ?_
 refine s_as ?_
 refine s_as ?_
 refine zf (zd (zh (zj (zg (zw (zj (zg (zn ?_))))))))
 cases F7
 exact zk [] [] Tryz.results200
 refine zi (zW (zd (za ?_)))
 refine zJ (zar C5 B6 hn_g3) ?_
 refine s_mv ?_
 refine zf ?_
 exact s_rn (fu,(g3+1)) ⟨by first | omega | (dsimp only;omega),F7,by first | omega | (dsimp only;omega)⟩
 refine zz (zq (zp (zr (zd (zb (za ?_))))))
 refine s_as ?_
 refine s_as ?_
 refine zf (zd (zh (zn ?_)))
 cases F4
 exact zk [] [] Tryz.results200
end Go.Abs
