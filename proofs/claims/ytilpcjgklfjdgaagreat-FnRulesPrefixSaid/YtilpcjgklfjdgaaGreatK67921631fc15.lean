/- A part of the proof: what the functions that the law calls answer, as pure values. -/
import Derived.Test.YtilpcjgklfjdgaaGreatK75e03ecae9fd
import Derived.Test.YtilpcjgklfjdgaaGreatKb8c86019bdb7
import Derived.Test.YtilpcjgklfjdgaaGreatKbeececb3b691
import Derived.Test.YtilpcjgklfjdgaaGreatKdfd114e1f3bb
set_option linter.unusedSimpArgs false
set_option linter.unusedVariables false
set_option maxRecDepth 100000
set_option maxHeartbeats 4000000
namespace Go.Abs
open Go.Proofs
theorem m_spec_l4Shape_all (fuel:Nat):zfS fuel:=by
 induction fuel using Nat.strongRecOn with
 | _ N ih =>
   cases N with
   | zero=>exact (by intro x1 r h;rw [zem] at h;cases h)
   | succ fu=>exact m_spec_l4Shape_st fu (fun k hk=>(ih k (by omega)))
theorem m_spec_l4Shape_ok (fuel:Nat):zfS fuel:=(m_spec_l4Shape_all fuel)
def m_spec_l4Var_AC (fuel:Nat):Prop:=∀ (x1:Form) (x2:(List Form)) (r:Bool),zgL fuel x1 x2=some r→AC Tryz.prog 168 [.ag [.t (.sc (.int .i64 x1.kind)),.t (.sc (.str x1.name)),.t (.sc (.int .i64 x1.n)),.t (.sl (x1.scopes.map rI)),.t (.sl (x1.kids.map Form.row))],.t (.sl (x2.map Form.row))] noOb (.t (.sc (.bool r))) noOb
theorem m_spec_l4Var_ok (fuel:Nat):m_spec_l4Var_AC fuel:=by
 intro x1 x2 r F0
 unfold zgL at F0
 refine AC_i [.t (.sc (.bool r))] Tryz.func168 rfl Tryz.ntmps168 ?_
 intro C hC
 refine zb (za ?_)
 refine zaL ?_
 refine s_as ?_
 refine zf (zd (zb (za ?_)))
 refine s_fa zcY ?_
 refine zu yA3 ?_
 refine s_eq ?_
 refine s_mv ?_
 refine zp _ 8 F0 ?_ ?_<;>intro C1 F1
 refine s_fa zcm ?_
 refine zu yA9 ?_
 refine s_neS ?_
 refine zA ?_
 refine s_mv ?_
 refine zp _ 13 F1 ?_ ?_<;>intro C2 F2
 refine s_fa zcm ?_
 refine zu yA9 ?_
 refine s_neS ?_
 refine zA ?_
 refine s_mv ?_
 refine zp _ 18 F2 ?_ ?_<;>intro C3 F3
 refine s_mv ?_
 refine zI yA32 yS32 ?_
 obtain ⟨v4,V4,F4⟩:=zc F3
 refine zv [] (zhl fuel _ _ _ V4) ?_
 refine zaY ?_
 refine zA ?_
 refine s_as ?_
 refine zf (zd (zh (zn ?_)))
 cases F4
 exact zk [] [] Tryz.results168
 iterate 4 refine r_no rfl ?_
 refine zz ?_
 refine s_as ?_
 refine zf (zd (zh (zn ?_)))
 cases F3
 exact zk [] [] Tryz.results168
 iterate 3 refine r_no rfl ?_
 refine zz ?_
 refine s_mv ?_
 iterate 4 refine r_no rfl ?_
 refine zz ?_
 refine s_as ?_
 refine zf (zd (zh (zn ?_)))
 cases F2
 exact zk [] [] Tryz.results168
 iterate 3 refine r_no rfl ?_
 refine zz ?_
 refine s_mv ?_
 iterate 3 refine r_no rfl ?_
 refine zz ?_
 refine s_mv ?_
 iterate 4 refine r_no rfl ?_
 refine zz ?_
 refine s_as ?_
 refine zf (zd (zh (zn ?_)))
 cases F1
 exact zk [] [] Tryz.results168
def zgs (fuel:Nat):Prop:=∀ (x1:(List Form)) (x2:Form) (x3:(List Form)) (r:(List Form)),zc0 fuel x1 x2 x3=some r→AC Tryz.prog 155 [.ar 9300,.ag [.t (.sc (.int .i64 x2.kind)),.t (.sc (.str x2.name)),.t (.sc (.int .i64 x2.n)),.t (.sl (x2.scopes.map rI)),.t (.sl (x2.kids.map Form.row))],.t (.sl (x3.map Form.row))] (objs [(9300,.arr (x1.map Form.row) 32 true)]) (.ar 9200) (objs [(9300,.dead),(9200,.arr (r.map Form.row) 32 true)])
theorem m_spec_l4Vars_st (fu:Nat) (ih_m_spec_l4Vars:∀ k,k≤fu→zgs k):zgs (fu+1):=by
 intro x1 x2 x3 r F0
 rw [zc0] at F0
 refine AC_i [.ar 9200] Tryz.func155 rfl Tryz.ntmps155 ?_
 intro C hC
 refine zb (za ?_)
 refine zaL ?_
 refine s_as ?_
 refine zf (zd (zb (zb (za ?_))))
 refine zI yA32 yS32 ?_
 refine s_mv ?_
 obtain ⟨v1,V1,F1⟩:=zc F0
 refine zv [] (m_spec_l4Var_ok fu _ _ _ V1) ?_
 refine zf (zd ?_)
 refine zm F1 ?_ ?_<;>intro C2 F2
 refine za ?_
 refine s_mv ?_
 refine zI yA32 yS32 ?_
 refine s_bs Form.row [x2] yP24 yR32 ?_
 obtain ⟨hk3,F3⟩:=zad F2
 refine zek Form.row (fun y=>Form.row_len y) hk3 yP24 ?_
 refine s_as ?_
 refine zf (zd (zb (zb (za ?_))))
 refine s_as ?_
 refine zf (zd (zl ?_))
 refine zcZ 0 14 5020 (by conv=>lhs;whnf) (by conv=>lhs;whnf) rfl ?_
 refine zal [0,7,15,16,17,18,19,20,21,22,23,24,25,26,27,28,29] [5020] [12029] [5020] (fun a:Nat × (List Form) × Int=>a.1) (fun a:Nat × (List Form) × Int=>[(0,.ar 5020),(7,.t (.sc (.int .i64 a.2.2)))]) (fun a:Nat × (List Form) × Int=>[(5020,.arr (a.2.1.map Form.row) 32 true)]) (fun a:Nat × (List Form) × Int=>a.1≤fu∧zaM a.1 x2 x3 a.2.1 a.2.2=some r∧0≤a.2.2) (fu,(x1++[x2]),0) ⟨Nat.le_refl _,F3,by simp⟩ (by rfl) (by rfl) (fun _=>rfl) (zH (by conv=>lhs;whnf) (by rfl) (zH (by conv=>lhs;whnf) (by rfl) zaV)) (zL (by conv=>lhs;whnf) (by rfl) zaG) (zbM hC rfl) (by repeat (first | exact z6 rfl | refine zaj rfl ?_ | refine zP rfl ?_)) (by repeat (first | exact zax | exact z9 rfl | refine zak rfl ?_ | refine zQ rfl ?_)) ?_
 clear F3
 rintro ⟨fu,g4,g5⟩ ⟨hl6,F4,hn_g5⟩
 dsimp only at hl6 F4 hn_g5 ⊢
 obtain _ | fu:=fu
 · rw [zaM] at F4;cases F4
 rw [zaM] at F4
 refine zb (zb (za ?_))
 refine s_mv ?_
 refine s_fa zF ?_
 refine zu yA24 ?_
 refine zC yU24 ?_
 refine s_lt ?_
 refine zf (zd ?_)
 refine zm F4 ?_ ?_<;>intro C7 F5
 refine zM 17 (fun B8=>?_)
 refine zi (zd (zb (zl (za ?_))))
 refine s_mv ?_
 refine s_fa zF ?_
 refine zu yA24 ?_
 refine s_mv ?_
 obtain ⟨v9,V9,F6⟩:=zc F5
 refine zK Form.row V9 (Form.row_eq _) yE24 ?_
 refine zam yA32 yS32 ?_
 refine s_mv ?_
 obtain ⟨v10,V10,F7⟩:=zc F6
 refine zY [(9300,5020),(9200,12029)] [] _ _ (ih_m_spec_l4Vars fu (by omega) _ _ _ _ V10) ?_
 refine s_as ?_
 refine zf (zW (zd (za ?_)))
 refine s_mv ?_
 refine zJ (zas C7 B8 hn_g5) ?_
 refine s_as ?_
 refine zf ?_
 exact s_rn (fu,v10,(g5+1)) ⟨by first | omega | (dsimp only;omega),F7,by first | omega | (dsimp only;omega)⟩ [(5020,12029)]
 refine zy (zq (zo (zr (zd (zb (za ?_))))))
 refine s_mv ?_
 refine s_as ?_
 refine zf (zd ?_)
 refine zcZ 6 5020 9200 (by conv=>lhs;whnf) (by conv=>lhs;whnf) rfl ?_
 refine zh (zn ?_)
 cases F5
 exact zk _ [] Tryz.results155
 refine zi (zd (zb (zb (za ?_))))
 refine s_as ?_
 refine zf (zd (zl ?_))
 refine zcZ 0 9300 5040 (by conv=>lhs;whnf) (by conv=>lhs;whnf) rfl ?_
 refine zal [0,7,15,16,17,18,19,20,21,22,23,24,25,26,27,28,29] [5040] [12029] [5040] (fun a:Nat × (List Form) × Int=>a.1) (fun a:Nat × (List Form) × Int=>[(0,.ar 5040),(7,.t (.sc (.int .i64 a.2.2)))]) (fun a:Nat × (List Form) × Int=>[(5040,.arr (a.2.1.map Form.row) 32 true)]) (fun a:Nat × (List Form) × Int=>a.1≤fu∧zaM a.1 x2 x3 a.2.1 a.2.2=some r∧0≤a.2.2) (fu,x1,0) ⟨Nat.le_refl _,F2,by simp⟩ (by rfl) (by rfl) (fun _=>rfl) (zH (by conv=>lhs;whnf) (by rfl) (zH (by conv=>lhs;whnf) (by rfl) zaV)) (zL (by conv=>lhs;whnf) (by rfl) zaG) (zbM hC rfl) (by repeat (first | exact z6 rfl | refine zaj rfl ?_ | refine zP rfl ?_)) (by repeat (first | exact zax | exact z9 rfl | refine zak rfl ?_ | refine zQ rfl ?_)) ?_
 clear F2
 rintro ⟨fu,g11,g12⟩ ⟨hl13,F3,hn_g12⟩
 dsimp only at hl13 F3 hn_g12 ⊢
 obtain _ | fu:=fu
 · rw [zaM] at F3;cases F3
 rw [zaM] at F3
 refine zb (zb (za ?_))
 refine s_mv ?_
 refine s_fa zF ?_
 refine zu yA24 ?_
 refine zC yU24 ?_
 refine s_lt ?_
 refine zf (zd ?_)
 refine zm F3 ?_ ?_<;>intro C14 F4
 refine zM 17 (fun B15=>?_)
 refine zi (zd (zb (zl (za ?_))))
 refine s_mv ?_
 refine s_fa zF ?_
 refine zu yA24 ?_
 refine s_mv ?_
 obtain ⟨v16,V16,F5⟩:=zc F4
 refine zK Form.row V16 (Form.row_eq _) yE24 ?_
 refine zam yA32 yS32 ?_
 refine s_mv ?_
 obtain ⟨v17,V17,F6⟩:=zc F5
 refine zY [(9300,5040),(9200,12029)] [] _ _ (ih_m_spec_l4Vars fu (by omega) _ _ _ _ V17) ?_
 refine s_as ?_
 refine zf (zW (zd (za ?_)))
 refine s_mv ?_
 refine zJ (zas C14 B15 hn_g12) ?_
 refine s_as ?_
 refine zf ?_
 exact s_rn (fu,v17,(g12+1)) ⟨by first | omega | (dsimp only;omega),F6,by first | omega | (dsimp only;omega)⟩ [(5040,12029)]
 refine zy (zq (zo (zr (zd (zb (za ?_))))))
 refine s_mv ?_
 refine s_as ?_
 refine zf (zd ?_)
 refine zcZ 6 5040 9200 (by conv=>lhs;whnf) (by conv=>lhs;whnf) rfl ?_
 refine zh (zn ?_)
 cases F4
 exact zk _ [] Tryz.results155
theorem m_spec_l4Vars_all (fuel:Nat):zgs fuel:=by
 induction fuel using Nat.strongRecOn with
 | _ N ih =>
   cases N with
   | zero=>exact (by intro x1 x2 x3 r h;rw [zc0] at h;cases h)
   | succ fu=>exact m_spec_l4Vars_st fu (fun k hk=>(ih k (by omega)))
theorem zhD (fuel:Nat):zgs fuel:=(m_spec_l4Vars_all fuel)
def zfq (fuel:Nat):Prop:=∀ (x1:(List Int)) (x2:Form) (x3:(List Form)) (x4:Int) (r:(List Int)),za8 fuel x1 x2 x3 x4=some r→AC Tryz.prog 156 [.ar 9300,.ag [.t (.sc (.int .i64 x2.kind)),.t (.sc (.str x2.name)),.t (.sc (.int .i64 x2.n)),.t (.sl (x2.scopes.map rI)),.t (.sl (x2.kids.map Form.row))],.t (.sl (x3.map Form.row)),.t (.sc (.int .i64 x4))] (objs [(9300,.arr (x1.map rI) 3 true)]) (.ar 9200) (objs [(9300,.dead),(9200,.arr (r.map rI) 3 true)])
theorem m_spec_l4Depths_st (fu:Nat) (ih_m_spec_l4Depths:∀ k,k≤fu→zfq k):zfq (fu+1):=by
 intro x1 x2 x3 x4 r F0
 rw [za8] at F0
 refine AC_i [.ar 9200] Tryz.func156 rfl Tryz.ntmps156 ?_
 intro C hC
 refine zb (za ?_)
 refine zaL ?_
 refine s_as ?_
 refine zf (zd (zb (zb (za ?_))))
 refine zI yA32 yS32 ?_
 refine s_mv ?_
 obtain ⟨v1,V1,F1⟩:=zc F0
 refine zv [] (m_spec_l4Var_ok fu _ _ _ V1) ?_
 refine zf (zd ?_)
 refine zm F1 ?_ ?_<;>intro C2 F2
 refine za ?_
 refine s_mv ?_
 refine s_mv ?_
 refine s_bs rI [x4] yP27 yR3 ?_
 obtain ⟨hk3,F3⟩:=zad F2
 refine zek rI (fun _=>rfl) hk3 yP27 ?_
 refine s_as ?_
 refine zf (zd (zb (zb (za ?_))))
 refine s_as ?_
 refine zf (zd (zl ?_))
 refine zcZ 0 17 5020 (by conv=>lhs;whnf) (by conv=>lhs;whnf) rfl ?_
 refine zal [0,9,10,18,19,20,21,22,23,24,25,26,27,28,29,30,31,32,33,34,35,36,37,38,39,40,41,42,43,44,45,46,47,48,49,50,51] [5020] [12051] [5020] (fun a:Nat × (List Int) × Int=>a.1) (fun a:Nat × (List Int) × Int=>[(0,.ar 5020),(9,.t (.sc (.int .i64 a.2.2)))]) (fun a:Nat × (List Int) × Int=>[(5020,.arr (a.2.1.map rI) 3 true)]) (fun a:Nat × (List Int) × Int=>a.1≤fu∧zah a.1 x2 x3 x4 a.2.1 a.2.2=some r∧0≤a.2.2) (fu,(x1++[x4]),0) ⟨Nat.le_refl _,F3,by simp⟩ (by rfl) (by rfl) (fun _=>rfl) (zH (by conv=>lhs;whnf) (by rfl) (zH (by conv=>lhs;whnf) (by rfl) zaV)) (zL (by conv=>lhs;whnf) (by rfl) zaG) (zbM hC rfl) (by repeat (first | exact z6 rfl | refine zaj rfl ?_ | refine zP rfl ?_)) (by repeat (first | exact zax | exact z9 rfl | refine zak rfl ?_ | refine zQ rfl ?_)) ?_
 clear F3
 rintro ⟨fu,g4,g5⟩ ⟨hl6,F4,hn_g5⟩
 dsimp only at hl6 F4 hn_g5 ⊢
 obtain _ | fu:=fu
 · rw [zah] at F4;cases F4
 rw [zah] at F4
 refine zb (zb (za ?_))
 refine s_mv ?_
 refine s_fa zF ?_
 refine zu yA24 ?_
 refine zC yU24 ?_
 refine s_lt ?_
 refine zf (zd ?_)
 refine zm F4 ?_ ?_<;>intro C7 F5
 refine zM 20 (fun B8=>?_)
 refine zi (zd (zb (zl (zb (za ?_)))))
 refine s_mv ?_
 refine s_as ?_
 refine zf (zd (zb (zb (za ?_))))
 refine s_mv ?_
 refine zJ (zas C7 B8 hn_g5) ?_
 refine s_fa zF ?_
 refine zu yA24 ?_
 refine zC yU24 ?_
 refine s_lt ?_
 refine s_mv ?_
 refine zp _ 32 F5 ?_ ?_<;>intro C9 F6
 refine s_fa zF ?_
 refine zu yA24 ?_
 refine s_mv ?_
 refine zJ (zas C7 B8 hn_g5) ?_
 obtain ⟨v10,V10,F7⟩:=zc F6
 refine zK Form.row V10 (Form.row_eq _) yE24 ?_
 refine zam yA32 yS32 ?_
 obtain ⟨v11,V11,F8⟩:=zc F7
 refine zv [] (zaN fu _ _ V11) ?_
 refine zA ?_
 refine zf (zd ?_)
 refine zm F8 ?_ ?_<;>intro C12 F9
 refine za ?_
 refine s_mv ?_
 refine zJ rfl ?_
 refine s_as ?_
 refine zf (zd (za ?_))
 refine s_mv ?_
 refine s_fa zF ?_
 refine zu yA24 ?_
 refine s_mv ?_
 obtain ⟨v13,V13,F10⟩:=zc F9
 refine zK Form.row V13 (Form.row_eq _) yE24 ?_
 refine zam yA32 yS32 ?_
 refine s_mv ?_
 refine s_mv ?_
 obtain ⟨v14,V14,F11⟩:=zc F10
 refine zY [(9300,5020),(9200,12051)] [] _ _ (ih_m_spec_l4Depths fu (by omega) _ _ _ _ _ V14) ?_
 refine s_as ?_
 refine zf (zW (zd (za ?_)))
 refine s_mv ?_
 refine zJ (zas C7 B8 hn_g5) ?_
 refine s_as ?_
 refine zf ?_
 exact s_rn (fu,v14,(g5+1)) ⟨by first | omega | (dsimp only;omega),F11,by first | omega | (dsimp only;omega)⟩ [(5020,12051)]
 refine zi (zd (za ?_))
 refine s_mv ?_
 refine s_fa zF ?_
 refine zu yA24 ?_
 refine s_mv ?_
 obtain ⟨v15,V15,F10⟩:=zc F9
 refine zK Form.row V15 (Form.row_eq _) yE24 ?_
 refine zam yA32 yS32 ?_
 refine s_mv ?_
 refine s_mv ?_
 obtain ⟨v16,V16,F11⟩:=zc F10
 refine zY [(9300,5020),(9200,12051)] [] _ _ (ih_m_spec_l4Depths fu (by omega) _ _ _ _ _ V16) ?_
 refine s_as ?_
 refine zf (zW (zd (za ?_)))
 refine s_mv ?_
 refine zJ (zas C7 B8 hn_g5) ?_
 refine s_as ?_
 refine zf ?_
 exact s_rn (fu,v16,(g5+1)) ⟨by first | omega | (dsimp only;omega),F11,by first | omega | (dsimp only;omega)⟩ [(5020,12051)]
 iterate 7 refine r_no rfl ?_
 refine zz ?_
 refine zf (zd (zaX rfl (zi (zd (za ?_)))))
 refine s_mv ?_
 refine s_fa zF ?_
 refine zu yA24 ?_
 refine s_mv ?_
 obtain ⟨v17,V17,F7⟩:=zc F6
 refine zK Form.row V17 (Form.row_eq _) yE24 ?_
 refine zam yA32 yS32 ?_
 refine s_mv ?_
 refine s_mv ?_
 obtain ⟨v18,V18,F8⟩:=zc F7
 refine zY [(9300,5020),(9200,12051)] [] _ _ (ih_m_spec_l4Depths fu (by omega) _ _ _ _ _ V18) ?_
 refine s_as ?_
 refine zf (zW (zd (za ?_)))
 refine s_mv ?_
 refine zJ (zas C7 B8 hn_g5) ?_
 refine s_as ?_
 refine zf ?_
 exact s_rn (fu,v18,(g5+1)) ⟨by first | omega | (dsimp only;omega),F8,by first | omega | (dsimp only;omega)⟩ [(5020,12051)]
 refine zy (zq (zo (zr (zd (zb (za ?_))))))
 refine s_mv ?_
 refine s_as ?_
 refine zf (zd ?_)
 refine zcZ 8 5020 9200 (by conv=>lhs;whnf) (by conv=>lhs;whnf) rfl ?_
 refine zh (zn ?_)
 cases F5
 exact zk _ [] Tryz.results156
 refine zi (zd (zb (zb (za ?_))))
 refine s_as ?_
 refine zf (zd (zl ?_))
 refine zcZ 0 9300 5040 (by conv=>lhs;whnf) (by conv=>lhs;whnf) rfl ?_
 refine zal [0,9,10,18,19,20,21,22,23,24,25,26,27,28,29,30,31,32,33,34,35,36,37,38,39,40,41,42,43,44,45,46,47,48,49,50,51] [5040] [12051] [5040] (fun a:Nat × (List Int) × Int=>a.1) (fun a:Nat × (List Int) × Int=>[(0,.ar 5040),(9,.t (.sc (.int .i64 a.2.2)))]) (fun a:Nat × (List Int) × Int=>[(5040,.arr (a.2.1.map rI) 3 true)]) (fun a:Nat × (List Int) × Int=>a.1≤fu∧zah a.1 x2 x3 x4 a.2.1 a.2.2=some r∧0≤a.2.2) (fu,x1,0) ⟨Nat.le_refl _,F2,by simp⟩ (by rfl) (by rfl) (fun _=>rfl) (zH (by conv=>lhs;whnf) (by rfl) (zH (by conv=>lhs;whnf) (by rfl) zaV)) (zL (by conv=>lhs;whnf) (by rfl) zaG) (zbM hC rfl) (by repeat (first | exact z6 rfl | refine zaj rfl ?_ | refine zP rfl ?_)) (by repeat (first | exact zax | exact z9 rfl | refine zak rfl ?_ | refine zQ rfl ?_)) ?_
 clear F2
 rintro ⟨fu,g19,g20⟩ ⟨hl21,F3,hn_g20⟩
 dsimp only at hl21 F3 hn_g20 ⊢
 obtain _ | fu:=fu
 · rw [zah] at F3;cases F3
 rw [zah] at F3
 refine zb (zb (za ?_))
 refine s_mv ?_
 refine s_fa zF ?_
 refine zu yA24 ?_
 refine zC yU24 ?_
 refine s_lt ?_
 refine zf (zd ?_)
 refine zm F3 ?_ ?_<;>intro C22 F4
 refine zM 20 (fun B23=>?_)
 refine zi (zd (zb (zl (zb (za ?_)))))
 refine s_mv ?_
 refine s_as ?_
 refine zf (zd (zb (zb (za ?_))))
 refine s_mv ?_
 refine zJ (zas C22 B23 hn_g20) ?_
 refine s_fa zF ?_
 refine zu yA24 ?_
 refine zC yU24 ?_
 refine s_lt ?_
 refine s_mv ?_
 refine zp _ 32 F4 ?_ ?_<;>intro C24 F5
 refine s_fa zF ?_
 refine zu yA24 ?_
 refine s_mv ?_
 refine zJ (zas C22 B23 hn_g20) ?_
 obtain ⟨v25,V25,F6⟩:=zc F5
 refine zK Form.row V25 (Form.row_eq _) yE24 ?_
 refine zam yA32 yS32 ?_
 obtain ⟨v26,V26,F7⟩:=zc F6
 refine zv [] (zaN fu _ _ V26) ?_
 refine zA ?_
 refine zf (zd ?_)
 refine zm F7 ?_ ?_<;>intro C27 F8
 refine za ?_
 refine s_mv ?_
 refine zJ rfl ?_
 refine s_as ?_
 refine zf (zd (za ?_))
 refine s_mv ?_
 refine s_fa zF ?_
 refine zu yA24 ?_
 refine s_mv ?_
 obtain ⟨v28,V28,F9⟩:=zc F8
 refine zK Form.row V28 (Form.row_eq _) yE24 ?_
 refine zam yA32 yS32 ?_
 refine s_mv ?_
 refine s_mv ?_
 obtain ⟨v29,V29,F10⟩:=zc F9
 refine zY [(9300,5040),(9200,12051)] [] _ _ (ih_m_spec_l4Depths fu (by omega) _ _ _ _ _ V29) ?_
 refine s_as ?_
 refine zf (zW (zd (za ?_)))
 refine s_mv ?_
 refine zJ (zas C22 B23 hn_g20) ?_
 refine s_as ?_
 refine zf ?_
 exact s_rn (fu,v29,(g20+1)) ⟨by first | omega | (dsimp only;omega),F10,by first | omega | (dsimp only;omega)⟩ [(5040,12051)]
 refine zi (zd (za ?_))
 refine s_mv ?_
 refine s_fa zF ?_
 refine zu yA24 ?_
 refine s_mv ?_
 obtain ⟨v30,V30,F9⟩:=zc F8
 refine zK Form.row V30 (Form.row_eq _) yE24 ?_
 refine zam yA32 yS32 ?_
 refine s_mv ?_
 refine s_mv ?_
 obtain ⟨v31,V31,F10⟩:=zc F9
 refine zY [(9300,5040),(9200,12051)] [] _ _ (ih_m_spec_l4Depths fu (by omega) _ _ _ _ _ V31) ?_
 refine s_as ?_
 refine zf (zW (zd (za ?_)))
 refine s_mv ?_
 refine zJ (zas C22 B23 hn_g20) ?_
 refine s_as ?_
 refine zf ?_
 exact s_rn (fu,v31,(g20+1)) ⟨by first | omega | (dsimp only;omega),F10,by first | omega | (dsimp only;omega)⟩ [(5040,12051)]
 iterate 7 refine r_no rfl ?_
 refine zz ?_
 refine zf (zd (zaX rfl (zi (zd (za ?_)))))
 refine s_mv ?_
 refine s_fa zF ?_
 refine zu yA24 ?_
 refine s_mv ?_
 obtain ⟨v32,V32,F6⟩:=zc F5
 refine zK Form.row V32 (Form.row_eq _) yE24 ?_
 refine zam yA32 yS32 ?_
 refine s_mv ?_
 refine s_mv ?_
 obtain ⟨v33,V33,F7⟩:=zc F6
 refine zY [(9300,5040),(9200,12051)] [] _ _ (ih_m_spec_l4Depths fu (by omega) _ _ _ _ _ V33) ?_
 refine s_as ?_
 refine zf (zW (zd (za ?_)))
 refine s_mv ?_
 refine zJ (zas C22 B23 hn_g20) ?_
 refine s_as ?_
 refine zf ?_
 exact s_rn (fu,v33,(g20+1)) ⟨by first | omega | (dsimp only;omega),F7,by first | omega | (dsimp only;omega)⟩ [(5040,12051)]
 refine zy (zq (zo (zr (zd (zb (za ?_))))))
 refine s_mv ?_
 refine s_as ?_
 refine zf (zd ?_)
 refine zcZ 8 5040 9200 (by conv=>lhs;whnf) (by conv=>lhs;whnf) rfl ?_
 refine zh (zn ?_)
 cases F4
 exact zk _ [] Tryz.results156
theorem m_spec_l4Depths_all (fuel:Nat):zfq fuel:=by
 induction fuel using Nat.strongRecOn with
 | _ N ih =>
   cases N with
   | zero=>exact (by intro x1 x2 x3 x4 r h;rw [za8] at h;cases h)
   | succ fu=>exact m_spec_l4Depths_st fu (fun k hk=>(ih k (by omega)))
theorem zgU (fuel:Nat):zfq fuel:=(m_spec_l4Depths_all fuel)
def m_spec_l4Is_AC (fuel:Nat):Prop:=∀ (x1:Form) (x2:(List Form)) (r:Bool),zhX fuel x1 x2=some r→AC Tryz.prog 122 [.ag [.t (.sc (.int .i64 x1.kind)),.t (.sc (.str x1.name)),.t (.sc (.int .i64 x1.n)),.t (.sl (x1.scopes.map rI)),.t (.sl (x1.kids.map Form.row))],.t (.sl (x2.map Form.row))] noOb (.t (.sc (.bool r))) noOb
theorem m_spec_l4Is_ok (fuel:Nat):m_spec_l4Is_AC fuel:=by
 intro x1 x2 r F0
 unfold zhX at F0
 refine AC_i [.t (.sc (.bool r))] Tryz.func122 rfl Tryz.ntmps122 ?_
 intro C hC
 refine zb (za ?_)
 refine zaL ?_
 refine s_as ?_
 refine zf (zd (zb (zb (za ?_))))
 refine zI yA32 yS32 ?_
 obtain ⟨v1,V1,F1⟩:=zc F0
 refine zv [] (zcd fuel _ _ V1) ?_
 refine zaY ?_
 refine s_mv ?_
 refine zp _ 12 F1 ?_ ?_<;>intro C2 F2
 iterate 3 refine r_no rfl ?_
 refine zA ?_
 refine s_mv ?_
 iterate 3 refine r_no rfl ?_
 refine zA ?_
 refine zf (zd (zT rfl (zb (za ?_))))
 refine s_as ?_
 refine zf (zd (zh (zg (zn ?_))))
 cases F2
 exact zk [] [] Tryz.results122
 refine s_mv ?_
 obtain ⟨v3,V3,F3⟩:=zc F2
 refine zv [] (zhI fuel _ _ V3) ?_
 refine zaY ?_
 refine zz ?_
 refine s_mv ?_
 refine zp _ 17 F3 ?_ ?_<;>intro C4 F4
 iterate 3 refine r_no rfl ?_
 refine zA ?_
 refine zf (zd (zT rfl (zb (za ?_))))
 refine s_as ?_
 refine zf (zd (zh (zg (zn ?_))))
 cases F4
 exact zk [] [] Tryz.results122
 refine zI yA32 yS32 ?_
 obtain ⟨v5,V5,F5⟩:=zc F4
 refine zv [] (m_spec_l4Shape_ok fuel _ _ V5) ?_
 refine zaY ?_
 refine zz ?_
 refine zf (zd ?_)
 refine zm F5 ?_ ?_<;>intro C6 F6
 refine zb (za ?_)
 refine s_as ?_
 refine zf (zd (zh (zg (zn ?_))))
 cases F6
 exact zk [] [] Tryz.results122
 refine zi (zd (zb (za ?_)))
 refine s_bs Form.row ([]:List Form) yP24 yR32 ?_
 refine zI yA32 yS32 ?_
 refine s_mv ?_
 obtain ⟨v7,V7,F7⟩:=zc F6
 refine zY [(9300,22),(9200,12025)] [] _ _ (zhD fuel _ _ _ _ V7) ?_
 refine s_as ?_
 refine zf (zd (zb (zb (za ?_))))
 refine s_as ?_
 refine zf (zd (zl ?_))
 refine awp_frz 12025 (by conv=>lhs;whnf) ?_
 refine zaK (β:=Int × (List Form)) [4,6,26,27,28,29,30,31,32,33,34,35,36,37,38,39] [12025] [] (fun a=>[(6,.t (.sc (.int .i64 a.2.1)))]) (fun a=>[(12025,.arr (a.2.2.map Form.row) 32 false)]) (fun a=>a.1≤fuel∧zdH a.1 x1 x2 a.2.1 a.2.2=some r∧0≤a.2.1) (fuel,0,v7) ⟨Nat.le_refl _,F7,by simp⟩ ?_
 clear F7
 rintro ⟨fu,g8,g9⟩ ⟨hl10,F8,hn_g8⟩
 dsimp only at hl10 F8 hn_g8 ⊢
 obtain _ | fu:=fu
 · rw [zdH] at F8;cases F8
 rw [zdH] at F8
 refine zb (zb (za ?_))
 refine s_mv ?_
 refine s_mv ?_
 refine zg8 yU24 ?_
 refine s_lt ?_
 refine zf (zd ?_)
 refine zm F8 ?_ ?_<;>intro C11 F9
 refine ziq 5 12025 (fun B12=>?_)
 refine zi (zd (zb (zl (zb ?_))))
 refine zO yMix (by kernel_rfl) ?_
 refine s_mv ?_
 refine s_mv ?_
 obtain ⟨v13,V13,F10⟩:=zc F9
 refine s_sl01 Form.row (fun y=>Form.row_len y) V13 yU24 yE24 ?_
 refine s_mv ?_
 refine s_mv ?_
 obtain ⟨v14,V14,F11⟩:=zc F10
 refine zis Form.row V14 yE24 ?_
 refine s_lAN Form.row V14 (Form.row_eq _) yA32 yS32 ?_
 obtain ⟨v15,V15,F12⟩:=zc F11
 refine zv [] (zhl fu _ _ _ V15) ?_
 refine zae (by kernel_rfl) ?_
 refine zd ?_
 refine zm F12 ?_ ?_<;>intro C16 F13
 refine zb (za ?_)
 refine s_as ?_
 refine zf (zd (zh (zj (zg (zw (zj (zg (zn ?_))))))))
 cases F13
 exact zk [] [] Tryz.results122
 refine zi (zW (zd (za ?_)))
 refine s_mv ?_
 refine zJ (zas C11 B12 hn_g8) ?_
 refine s_as ?_
 refine zf ?_
 exact s_rn (fu,(g8+1),g9) ⟨by first | omega | (dsimp only;omega),F13,by first | omega | (dsimp only;omega)⟩
 refine zy (zq (zo (zr (zd (zb (za ?_))))))
 refine s_bs rI ([]:List Int) yP27 yR3 ?_
 refine zI yA32 yS32 ?_
 refine s_mv ?_
 obtain ⟨v17,V17,F10⟩:=zc F9
 refine zY [(9300,40),(9200,12043)] [] _ _ (zgU fu _ _ _ _ _ V17) ?_
 refine s_as ?_
 refine zf (zd (zb (zb (za ?_))))
 refine s_as ?_
 refine zf (zd (zl ?_))
 refine zaK (β:=Int) [4,8,44,45,46,47,48,49,50,51,52,53,54] [] [] (fun a=>[(8,.t (.sc (.int .i64 a.2)))]) (fun a=>[]) (fun a=>a.1≤fu∧zdG a.1 g9 v17 a.2=some r∧0≤a.2) (fu,0) ⟨Nat.le_refl _,F10,by simp⟩ ?_
 clear F10
 rintro ⟨fu,g18⟩ ⟨hl19,F11,hn_g18⟩
 dsimp only at hl19 F11 hn_g18 ⊢
 obtain _ | fu:=fu
 · rw [zdG] at F11;cases F11
 rw [zdG] at F11
 refine zb (zb (za ?_))
 refine s_mv ?_
 refine s_mv ?_
 refine zg8 yU27 ?_
 refine s_lt ?_
 refine zf (zd ?_)
 refine zm F11 ?_ ?_<;>intro C20 F12
 refine ziq 7 12043 (fun B21=>?_)
 refine zi (zd (zb (zl (zb (za ?_)))))
 refine s_mv ?_
 refine s_mv ?_
 obtain ⟨v22,V22,F13⟩:=zc F12
 refine zis rI V22 yE27 ?_
 refine s_lA1 rI V22 rfl yA3 ?_
 refine s_gt ?_
 refine zf (zd ?_)
 refine zm F13 ?_ ?_<;>intro C23 F14
 refine zb (za ?_)
 refine s_as ?_
 refine zf (zd (zh (zj (zg (zw (zj (zg (zn ?_))))))))
 cases F14
 exact zk [] [] Tryz.results122
 refine zi (zW (zd (za ?_)))
 refine s_mv ?_
 refine zJ (zas C20 B21 hn_g18) ?_
 refine s_as ?_
 refine zf ?_
 exact s_rn (fu,(g18+1)) ⟨by first | omega | (dsimp only;omega),F14,by first | omega | (dsimp only;omega)⟩
 refine zy (zq (zo (zr (zd (zb (za ?_))))))
 refine s_mv ?_
 refine zg8 yU24 ?_
 refine s_le ?_
 refine s_as ?_
 refine zf (zd (zh (zn ?_)))
 cases F12
 exact zk [] [] Tryz.results122
def m_spec_l5Shape_AC (fuel:Nat):Prop:=∀ (x1:Form) (x2:(List Form)) (r:(List Hit)),zf7 fuel x1 x2=some r→AC Tryz.prog 123 [.ag [.t (.sc (.int .i64 x1.kind)),.t (.sc (.str x1.name)),.t (.sc (.int .i64 x1.n)),.t (.sl (x1.scopes.map rI)),.t (.sl (x1.kids.map Form.row))],.t (.sl (x2.map Form.row))] noOb (.t (.sl (r.map Hit.row))) noOb
theorem m_spec_l5Shape_ok (fuel:Nat):m_spec_l5Shape_AC fuel:=by
 intro x1 x2 r F0
 unfold zf7 at F0
 refine AC_i [.t (.sl (r.map Hit.row))] Tryz.func123 rfl Tryz.ntmps123 ?_
 intro C hC
 refine zb (za ?_)
 refine zaL ?_
 refine s_as ?_
 refine zf (zd (zb (za ?_)))
 refine s_bs Hit.row ([]:List Hit) yP42 yR48 ?_
 refine s_as ?_
 refine zf (zd (zb (za ?_)))
 refine s_bs Form.row ([]:List Form) yP24 yR32 ?_
 refine zI yA32 yS32 ?_
 refine s_mv ?_
 obtain ⟨v1,V1,F1⟩:=zc F0
 refine zY [(9300,11),(9200,12014)] [] _ _ (zhD fuel _ _ _ _ V1) ?_
 refine s_as ?_
 refine zf (zd (zb (za ?_)))
 refine s_bs rI ([]:List Int) yP27 yR3 ?_
 refine zI yA32 yS32 ?_
 refine s_mv ?_
 obtain ⟨v2,V2,F2⟩:=zc F1
 refine zY [(9300,15),(9200,12018)] [] _ _ (zgU fuel _ _ _ _ _ V2) ?_
 refine s_as ?_
 refine zf (zd (zb (zb (za ?_))))
 refine s_as ?_
 refine zf (zd (zl ?_))
 refine zcZ 5 10 5020 (by conv=>lhs;whnf) (by conv=>lhs;whnf) rfl ?_
 refine zal [5,8,9,19,20,21,22,23,24,25,26,27,28,29,30,31,32,33,34,35,36,37,38,39,40,41,42,43,44,45] [5020] [9,44,45] [5020] (fun a:Nat × (List Hit) × Int=>a.1) (fun a:Nat × (List Hit) × Int=>[(5,.ar 5020),(8,.t (.sc (.int .i64 a.2.2)))]) (fun a:Nat × (List Hit) × Int=>[(5020,.arr (a.2.1.map Hit.row) 48 true)]) (fun a:Nat × (List Hit) × Int=>a.1≤fuel∧zbT a.1 v1 v2 a.2.1 a.2.2=some r∧0≤a.2.2) (fuel,([]:List Hit),0) ⟨Nat.le_refl _,F2,by simp⟩ (by rfl) (by rfl) (fun _=>rfl) (zH (by conv=>lhs;whnf) (by rfl) (zH (by conv=>lhs;whnf) (by rfl) zaV)) (zL (by conv=>lhs;whnf) (by rfl) zaG) (zbM hC rfl) (by repeat (first | exact z6 rfl | refine zaj rfl ?_ | refine zP rfl ?_)) (by repeat (first | exact zax | exact z9 rfl | refine zak rfl ?_ | refine zQ rfl ?_)) ?_
 clear F2
 rintro ⟨fu,g3,g4⟩ ⟨hl5,F3,hn_g4⟩
 dsimp only at hl5 F3 hn_g4 ⊢
 obtain _ | fu:=fu
 · rw [zbT] at F3;cases F3
 rw [zbT] at F3
 refine zb (zb (za ?_))
 refine s_mv ?_
 refine s_mv ?_
 refine zg8 yU24 ?_
 refine s_lt ?_
 refine zf (zd ?_)
 refine zm F3 ?_ ?_<;>intro C6 F4
 refine ziq 6 12014 (fun B7=>?_)
 refine zi (zd (zb (zl (zb ?_))))
 refine zO yMix (by kernel_rfl) ?_
 refine s_mv ?_
 refine s_mv ?_
 obtain ⟨v8,V8,F5⟩:=zc F4
 refine zis Form.row V8 yE24 ?_
 refine s_lAN Form.row V8 (Form.row_eq _) yA32 yS32 ?_
 refine s_mv ?_
 refine s_mv ?_
 obtain ⟨v9,V9,F6⟩:=zc F5
 refine zis rI V9 yE27 ?_
 refine s_lA1 rI V9 rfl yA3 ?_
 refine zgD yZ48 yL48 ?_
 refine zU yZ48 ?_
 refine zac yS48 ?_
 refine zae (by kernel_rfl) ?_
 refine zd (zb (zb (za ?_)))
 refine s_fa zhU ?_
 refine zu yA3 ?_
 refine s_eq ?_
 refine zf (zd ?_)
 refine zm F6 ?_ ?_<;>intro C10 F7
 refine za ?_
 refine s_mv ?_
 refine s_mv ?_
 obtain ⟨v11,V11,F8⟩:=zc F7
 refine zis Form.row V11 yE24 ?_
 refine s_lAN Form.row V11 (Form.row_eq _) yA32 yS32 ?_
 refine s_fa yF48_2 ?_
 refine zia yS32 ?_
 refine zf (zd (za ?_))
 refine s_mv ?_
 refine zI yA48 yS48 ?_
 refine s_bs Hit.row [(Hit.mk v8 v9 v11 ([]:List Hit))] yP42 yR48 ?_
 obtain ⟨hk12,F9⟩:=zad F8
 refine zek Hit.row (fun y=>Hit.row_len y) hk12 yP42 ?_
 refine s_as ?_
 refine zf (zW (zd (za ?_)))
 refine s_mv ?_
 refine zJ (zas C6 B7 hn_g4) ?_
 refine s_as ?_
 refine zf ?_
 exact s_rn (fu,(g3++[(Hit.mk v8 v9 v11 ([]:List Hit))]),(g4+1)) ⟨by first | omega | (dsimp only;omega),F9,by first | omega | (dsimp only;omega)⟩ [(5020,45)]
 refine zi (zd (za ?_))
 refine s_mv ?_
 refine zI yA48 yS48 ?_
 refine s_bs Hit.row [(Hit.mk v8 v9 (Form.mk 0 (⟨#[]⟩:ByteArray) 0 ([]:List Int) ([]:List Form)) ([]:List Hit))] yP42 yR48 ?_
 obtain ⟨hk13,F8⟩:=zad F7
 refine zek Hit.row (fun y=>Hit.row_len y) hk13 yP42 ?_
 refine s_as ?_
 refine zf (zW (zd (za ?_)))
 refine s_mv ?_
 refine zJ (zas C6 B7 hn_g4) ?_
 refine s_as ?_
 refine zf ?_
 exact s_rn (fu,(g3++[(Hit.mk v8 v9 (Form.mk 0 (⟨#[]⟩:ByteArray) 0 ([]:List Int) ([]:List Form)) ([]:List Hit))]),(g4+1)) ⟨by first | omega | (dsimp only;omega),F8,by first | omega | (dsimp only;omega)⟩ [(5020,45)]
 refine zy (zq (zo (zr (zd (zb (za ?_))))))
 refine s_mv ?_
 refine s_as ?_
 refine zf (zd (zh (zn ?_)))
 cases F4
 exact zk [] [5020] Tryz.results123
def m_spec_l4Find_AC (fuel:Nat):Prop:=∀ (x1:(List Hit)) (x2:Form) (r:Int),zeK fuel x1 x2=some r→AC Tryz.prog 95 [.t (.sl (x1.map Hit.row)),.ag [.t (.sc (.int .i64 x2.kind)),.t (.sc (.str x2.name)),.t (.sc (.int .i64 x2.n)),.t (.sl (x2.scopes.map rI)),.t (.sl (x2.kids.map Form.row))]] noOb (.t (.sc (.int .i64 r))) noOb
theorem m_spec_l4Find_ok (fuel:Nat):m_spec_l4Find_AC fuel:=by
 intro x1 x2 r F0
 unfold zeK at F0
 refine AC_i [.t (.sc (.int .i64 r))] Tryz.func95 rfl Tryz.ntmps95 ?_
 intro C hC
 refine zb (za ?_)
 refine zaL ?_
 refine s_as ?_
 refine zf (zd (zb (zb (za ?_))))
 refine s_as ?_
 refine zf (zd (zl ?_))
 refine zaK (β:=Int) [4,5,6,7,8,9,10,11,12,13,14,15,16,17,18,19] [] [] (fun a=>[(5,.t (.sc (.int .i64 a.2)))]) (fun a=>[]) (fun a=>a.1≤fuel∧zca a.1 x1 x2 a.2=some r∧0≤a.2) (fuel,0) ⟨Nat.le_refl _,F0,by simp⟩ ?_
 clear F0
 rintro ⟨fu,g1⟩ ⟨hl2,F1,hn_g1⟩
 dsimp only at hl2 F1 hn_g1 ⊢
 obtain _ | fu:=fu
 · rw [zca] at F1;cases F1
 rw [zca] at F1
 refine zb (zb (za ?_))
 refine s_mv ?_
 refine s_mv ?_
 refine zC yU42 ?_
 refine s_lt ?_
 refine zf (zd ?_)
 refine zm F1 ?_ ?_<;>intro C3 F2
 refine zM 0 (fun B4=>?_)
 refine zi (zd (zb (zl (zb ?_))))
 refine zO yMix (by kernel_rfl) ?_
 refine s_mv ?_
 refine s_mv ?_
 obtain ⟨v5,V5,F3⟩:=zc F2
 refine zK Hit.row V5 (Hit.row_eq _) yE42 ?_
 refine s_fa zix ?_
 refine zam yA32 yS32 ?_
 refine zI yA32 yS32 ?_
 obtain ⟨v6,V6,F4⟩:=zc F3
 refine zv [] (zft fu _ _ _ V6) ?_
 refine zae (by kernel_rfl) ?_
 refine zd ?_
 refine zm F4 ?_ ?_<;>intro C7 F5
 refine zb (za ?_)
 refine s_mv ?_
 refine s_as ?_
 refine zf (zd (zh (zj (zg (zw (zj (zg (zn ?_))))))))
 cases F5
 exact zk [] [] Tryz.results95
 refine zi (zW (zd (za ?_)))
 refine s_mv ?_
 refine zJ (zas C3 B4 hn_g1) ?_
 refine s_as ?_
 refine zf ?_
 exact s_rn (fu,(g1+1)) ⟨by first | omega | (dsimp only;omega),F5,by first | omega | (dsimp only;omega)⟩
 refine zy (zq (zo (zr (zd (zb (za ?_))))))
 refine s_as ?_
 refine zf (zd (zh (zn ?_)))
 cases F2
 exact zk [] [] Tryz.results95
def m_spec_l5Depth_AC (fuel:Nat):Prop:=∀ (x1:(List Hit)) (x2:Form) (r:Int),zfm fuel x1 x2=some r→AC Tryz.prog 138 [.t (.sl (x1.map Hit.row)),.ag [.t (.sc (.int .i64 x2.kind)),.t (.sc (.str x2.name)),.t (.sc (.int .i64 x2.n)),.t (.sl (x2.scopes.map rI)),.t (.sl (x2.kids.map Form.row))]] noOb (.t (.sc (.int .i64 r))) noOb
theorem ziC (fuel:Nat):m_spec_l5Depth_AC fuel:=by
 intro x1 x2 r F0
 unfold zfm at F0
 refine AC_i [.t (.sc (.int .i64 r))] Tryz.func138 rfl Tryz.ntmps138 ?_
 intro C hC
 refine zb (za ?_)
 refine zaL ?_
 refine s_as ?_
 refine zf (zd (zb (zb (za ?_))))
 refine s_fa zcY ?_
 refine zu yA3 ?_
 refine s_ne ?_
 refine zf (zd ?_)
 refine zm F0 ?_ ?_<;>intro C1 F1
 refine zb (za ?_)
 refine s_as ?_
 refine zf (zd (zh (zg (zn ?_))))
 cases F1
 exact zk [] [] Tryz.results138
 refine zi (zd (zb (za ?_)))
 refine s_mv ?_
 refine zI yA32 yS32 ?_
 obtain ⟨v2,V2,F2⟩:=zc F1
 refine zv [] (m_spec_l4Find_ok fuel _ _ _ V2) ?_
 refine s_as ?_
 refine zf (zd (zb (zb (za ?_))))
 refine s_mv ?_
 refine s_lt ?_
 refine zf (zd ?_)
 refine zm F2 ?_ ?_<;>intro C3 F3
 refine zb (za ?_)
 refine s_as ?_
 refine zf (zd (zh (zg (zn ?_))))
 cases F3
 exact zk [] [] Tryz.results138
 refine zi (zd (zb (za ?_)))
 refine s_mv ?_
 refine s_mv ?_
 obtain ⟨v4,V4,F4⟩:=zc F3
 refine zK Hit.row V4 (Hit.row_eq _) yE42 ?_
 refine s_fa zhU ?_
 refine zu yA3 ?_
 refine s_as ?_
 refine zf (zd (zh (zn ?_)))
 cases F4
 exact zk [] [] Tryz.results138
def zgq (fuel:Nat):Prop:=∀ (x1:(List Hit)) (x2:Form) (r:Bool),zeJ fuel x1 x2=some r→AC Tryz.prog 139 [.t (.sl (x1.map Hit.row)),.ag [.t (.sc (.int .i64 x2.kind)),.t (.sc (.str x2.name)),.t (.sc (.int .i64 x2.n)),.t (.sl (x2.scopes.map rI)),.t (.sl (x2.kids.map Form.row))]] noOb (.t (.sc (.bool r))) noOb
theorem m_spec_l5Rows_st (fu:Nat) (ih_m_spec_l5Rows:∀ k,k≤fu→zgq k):zgq (fu+1):=by
 intro x1 x2 r F0
 rw [zeJ] at F0
 refine AC_i [.t (.sc (.bool r))] Tryz.func139 rfl Tryz.ntmps139 ?_
 intro C hC
 refine zb (za ?_)
 refine zaL ?_
 refine s_as ?_
 refine zf (zd (zb (zb (za ?_))))
 refine s_mv ?_
 refine zI yA32 yS32 ?_
 obtain ⟨v1,V1,F1⟩:=zc F0
 refine zv [] (ziC fu _ _ _ V1) ?_
 refine s_gt ?_
 refine zf (zd ?_)
 refine zm F1 ?_ ?_<;>intro C2 F2
 refine zb (za ?_)
 refine s_as ?_
 refine zf (zd (zh (zg (zn ?_))))
 cases F2
 exact zk [] [] Tryz.results139
 refine zi (zd (zb (zb (za ?_))))
 refine s_as ?_
 refine zf (zd (zl ?_))
 refine zaK (β:=Int) [4,5,10,11,12,13,14,15,16,17,18,19,20,21,22,23] [] [] (fun a=>[(5,.t (.sc (.int .i64 a.2)))]) (fun a=>[]) (fun a=>a.1≤fu∧zcy a.1 x1 x2 a.2=some r∧0≤a.2) (fu,0) ⟨Nat.le_refl _,F2,by simp⟩ ?_
 clear F2
 rintro ⟨fu,g3⟩ ⟨hl4,F3,hn_g3⟩
 dsimp only at hl4 F3 hn_g3 ⊢
 obtain _ | fu:=fu
 · rw [zcy] at F3;cases F3
 rw [zcy] at F3
 refine zb (zb (za ?_))
 refine s_mv ?_
 refine s_fa zF ?_
 refine zu yA24 ?_
 refine zC yU24 ?_
 refine s_lt ?_
 refine zf (zd ?_)
 refine zm F3 ?_ ?_<;>intro C5 F4
 refine zM 12 (fun B6=>?_)
 refine zi (zd (zb (zl (zb (za ?_)))))
 refine s_mv ?_
 refine s_fa zF ?_
 refine zu yA24 ?_
 refine s_mv ?_
 obtain ⟨v7,V7,F5⟩:=zc F4
 refine zK Form.row V7 (Form.row_eq _) yE24 ?_
 refine zam yA32 yS32 ?_
 obtain ⟨v8,V8,F6⟩:=zc F5
 refine zv [] (ih_m_spec_l5Rows fu (by omega) _ _ _ V8) ?_
 refine zf (zd ?_)
 refine zm F6 ?_ ?_<;>intro C9 F7
 refine zb (za ?_)
 refine s_as ?_
 refine zf (zd (zh (zj (zg (zw (zj (zg (zn ?_))))))))
 cases F7
 exact zk [] [] Tryz.results139
 refine zi (zW (zd (za ?_)))
 refine s_mv ?_
 refine zJ (zas C5 B6 hn_g3) ?_
 refine s_as ?_
 refine zf ?_
 exact s_rn (fu,(g3+1)) ⟨by first | omega | (dsimp only;omega),F7,by first | omega | (dsimp only;omega)⟩
 refine zy (zq (zo (zr (zd (zb (za ?_))))))
 refine s_as ?_
 refine zf (zd (zh (zn ?_)))
 cases F4
 exact zk [] [] Tryz.results139
theorem m_spec_l5Rows_all (fuel:Nat):zgq fuel:=by
 induction fuel using Nat.strongRecOn with
 | _ N ih =>
   cases N with
   | zero=>exact (by intro x1 x2 r h;rw [zeJ] at h;cases h)
   | succ fu=>exact m_spec_l5Rows_st fu (fun k hk=>(ih k (by omega)))
theorem m_spec_l5Rows_ok (fuel:Nat):zgq fuel:=(m_spec_l5Rows_all fuel)
end Go.Abs
