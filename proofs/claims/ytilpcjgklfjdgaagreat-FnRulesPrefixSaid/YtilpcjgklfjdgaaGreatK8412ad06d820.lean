/- A part of the proof: what the functions that the law calls answer, as pure values. -/
import Derived.Test.YtilpcjgklfjdgaaGreatK67921631fc15
import Derived.Test.YtilpcjgklfjdgaaGreatK75e03ecae9fd
import Derived.Test.YtilpcjgklfjdgaaGreatKb8c86019bdb7
import Derived.Test.YtilpcjgklfjdgaaGreatKbeececb3b691
import Derived.Test.YtilpcjgklfjdgaaGreatKdfd114e1f3bb
import Derived.Test.YtilpcjgklfjdgaaGreatK25b6b0d87810
import Derived.Test.YtilpcjgklfjdgaaGreatK6646ba393ca5
set_option linter.unusedSimpArgs false
set_option linter.unusedVariables false
set_option maxRecDepth 100000
set_option maxHeartbeats 4000000
namespace Go.Abs
open Go.Proofs
def m_spec_l5Less_AC (fuel:Nat):Prop:=∀ (x1:(List Hit)) (r:(List Hit)),zgS fuel x1=some r→AC Tryz.prog 140 [.t (.sl (x1.map Hit.row))] noOb (.t (.sl (r.map Hit.row))) noOb
theorem m_spec_l5Less_ok (fuel:Nat):m_spec_l5Less_AC fuel:=by
 intro x1 r F0
 unfold zgS at F0
 refine AC_i [.t (.sl (r.map Hit.row))] Tryz.func140 rfl Tryz.ntmps140 ?_
 intro C hC
 refine zb (za ?_)
 refine s_as ?_
 refine zf (zd (zb (za ?_)))
 refine s_bs Hit.row ([]:List Hit) yP42 yR48 ?_
 refine s_as ?_
 refine zf (zd (zb (zb (za ?_))))
 refine s_as ?_
 refine zf (zd (zl ?_))
 refine zcZ 3 6 5020 (by conv=>lhs;whnf) (by conv=>lhs;whnf) rfl ?_
 refine zal [3,4,5,7,8,9,10,11,12,13,14,15,16,17,18,19,20,21,22,23,24,25,26,27,28,29,30,31,32,33,34,35,36,37,38,39] [5020] [5,38,39] [5020] (fun a:Nat × (List Hit) × Int=>a.1) (fun a:Nat × (List Hit) × Int=>[(3,.ar 5020),(4,.t (.sc (.int .i64 a.2.2)))]) (fun a:Nat × (List Hit) × Int=>[(5020,.arr (a.2.1.map Hit.row) 48 true)]) (fun a:Nat × (List Hit) × Int=>a.1≤fuel∧zb8 a.1 x1 a.2.1 a.2.2=some r∧0≤a.2.2) (fuel,([]:List Hit),0) ⟨Nat.le_refl _,F0,by simp⟩ (by rfl) (by rfl) (fun _=>rfl) (zH (by conv=>lhs;whnf) (by rfl) (zH (by conv=>lhs;whnf) (by rfl) zaV)) (zL (by conv=>lhs;whnf) (by rfl) zaG) (zbM hC rfl) (by repeat (first | exact z6 rfl | refine zaj rfl ?_ | refine zP rfl ?_)) (by repeat (first | exact zax | exact z9 rfl | refine zak rfl ?_ | refine zQ rfl ?_)) ?_
 clear F0
 rintro ⟨fu,g1,g2⟩ ⟨hl3,F1,hn_g2⟩
 dsimp only at hl3 F1 hn_g2 ⊢
 obtain _ | fu:=fu
 · rw [zb8] at F1;cases F1
 rw [zb8] at F1
 refine zb (zb (za ?_))
 refine s_mv ?_
 refine s_mv ?_
 refine zC yU42 ?_
 refine s_lt ?_
 refine zf (zd ?_)
 refine zm F1 ?_ ?_<;>intro C4 F2
 refine zM 0 (fun B5=>?_)
 refine zi (zd (zb (zl (zb ?_))))
 refine zO yMix (by kernel_rfl) ?_
 refine s_mv ?_
 refine s_mv ?_
 obtain ⟨v6,V6,F3⟩:=zc F2
 refine zK Hit.row V6 (Hit.row_eq _) yE42 ?_
 refine s_fa zix ?_
 refine zam yA32 yS32 ?_
 refine s_mv ?_
 refine s_mv ?_
 obtain ⟨v7,V7,F4⟩:=zc F3
 refine zK Hit.row V7 (Hit.row_eq _) yE42 ?_
 refine s_fa zhU ?_
 refine zu yA3 ?_
 refine s_mv ?_
 refine s_mv ?_
 obtain ⟨v8,V8,F5⟩:=zc F4
 refine zK Hit.row V8 (Hit.row_eq _) yE42 ?_
 refine s_fa yF48_2 ?_
 refine zam yA32 yS32 ?_
 refine zgD yZ48 yL48 ?_
 refine zU yZ48 ?_
 refine zac yS48 ?_
 refine zae (by kernel_rfl) ?_
 refine zd (zb (zb (za ?_)))
 refine s_fa zhU ?_
 refine zu yA3 ?_
 refine s_gt ?_
 refine zf (zd ?_)
 refine zm F5 ?_ ?_<;>intro C9 F6
 refine za ?_
 refine s_fa zhU ?_
 refine zu yA3 ?_
 refine zh9 rfl ?_
 refine s_fa zhU ?_
 refine zia yS3 ?_
 refine zf (zd (za ?_))
 refine s_mv ?_
 refine zI yA48 yS48 ?_
 refine s_bs Hit.row [(Hit.mk v6.name (w64 (v7.depth-1)) v8.one ([]:List Hit))] yP42 yR48 ?_
 obtain ⟨hk10,F7⟩:=zad F6
 refine zek Hit.row (fun y=>Hit.row_len y) hk10 yP42 ?_
 refine s_as ?_
 refine zf (zW (zd (za ?_)))
 refine s_mv ?_
 refine zJ (zas C4 B5 hn_g2) ?_
 refine s_as ?_
 refine zf ?_
 exact s_rn (fu,(g1++[(Hit.mk v6.name (w64 (v7.depth-1)) v8.one ([]:List Hit))]),(g2+1)) ⟨by first | omega | (dsimp only;omega),F7,by first | omega | (dsimp only;omega)⟩ [(5020,39)]
 refine zi (zd (za ?_))
 refine s_mv ?_
 refine zI yA48 yS48 ?_
 refine s_bs Hit.row [(Hit.mk v6.name v7.depth v8.one ([]:List Hit))] yP42 yR48 ?_
 obtain ⟨hk11,F7⟩:=zad F6
 refine zek Hit.row (fun y=>Hit.row_len y) hk11 yP42 ?_
 refine s_as ?_
 refine zf (zW (zd (za ?_)))
 refine s_mv ?_
 refine zJ (zas C4 B5 hn_g2) ?_
 refine s_as ?_
 refine zf ?_
 exact s_rn (fu,(g1++[(Hit.mk v6.name v7.depth v8.one ([]:List Hit))]),(g2+1)) ⟨by first | omega | (dsimp only;omega),F7,by first | omega | (dsimp only;omega)⟩ [(5020,39)]
 refine zy (zq (zo (zr (zd (zb (za ?_))))))
 refine s_mv ?_
 refine s_as ?_
 refine zf (zd (zh (zn ?_)))
 cases F2
 exact zk [] [5020] Tryz.results140
def zhk (fuel:Nat):Prop:=∀ (x1:Form) (x2:(List Hit)) (r:Bool),zel fuel x1 x2=some r→AC Tryz.prog 94 [.ag [.t (.sc (.int .i64 x1.kind)),.t (.sc (.str x1.name)),.t (.sc (.int .i64 x1.n)),.t (.sl (x1.scopes.map rI)),.t (.sl (x1.kids.map Form.row))],.t (.sl (x2.map Hit.row))] noOb (.t (.sc (.bool r))) noOb
theorem m_spec_l5Is_st (fu:Nat) (ih_m_spec_l5Is:∀ k,k≤fu→zhk k):zhk (fu+1):=by
 intro x1 x2 r F0
 rw [zel] at F0
 refine AC_i [.t (.sc (.bool r))] Tryz.func94 rfl Tryz.ntmps94 ?_
 intro C hC
 refine zb (za ?_)
 refine zaL ?_
 refine s_as ?_
 refine zf (zd (zb (zb (za ?_))))
 refine zI yA32 yS32 ?_
 obtain ⟨v1,V1,F1⟩:=zc F0
 refine zv [] (zaN fu _ _ V1) ?_
 refine s_mv ?_
 refine zp _ 8 F1 ?_ ?_<;>intro C2 F2
 iterate 4 refine r_no rfl ?_
 refine zA ?_
 refine zf (zd (zT rfl (zb (za ?_))))
 refine s_as ?_
 refine zf (zd (zh (zg (zn ?_))))
 cases F2
 exact zk [] [] Tryz.results94
 refine s_mv ?_
 refine zI yA32 yS32 ?_
 obtain ⟨v3,V3,F3⟩:=zc F2
 refine zv [] (ziC fu _ _ _ V3) ?_
 refine s_gt ?_
 refine zz ?_
 refine zf (zd ?_)
 refine zm F3 ?_ ?_<;>intro C4 F4
 refine zb (za ?_)
 refine s_as ?_
 refine zf (zd (zh (zg (zn ?_))))
 cases F4
 exact zk [] [] Tryz.results94
 refine zi (zd (zb (zb (za ?_))))
 refine s_as ?_
 refine zf (zd (zl ?_))
 refine zaK (β:=Int) [4,5,14,15,16,17,18,19,20,21,22,23,24,25,26,27,28,29,30,31,32,33,34,35,36,37,38,39,40,41,42,43,44,45,46,47,48,49,50,51,52,53,54,55,56,57,58,59,60,61,62,63,64,65,66,67,68,69,70,71,72,73,74,75,76,77,78,79] [] [] (fun a=>[(5,.t (.sc (.int .i64 a.2)))]) (fun a=>[]) (fun a=>a.1≤fu∧zbN a.1 x1 x2 a.2=some r∧0≤a.2) (fu,0) ⟨Nat.le_refl _,F4,by simp⟩ ?_
 clear F4
 rintro ⟨fu,g5⟩ ⟨hl6,F5,hn_g5⟩
 dsimp only at hl6 F5 hn_g5 ⊢
 obtain _ | fu:=fu
 · rw [zbN] at F5;cases F5
 rw [zbN] at F5
 refine zb (zb (za ?_))
 refine s_mv ?_
 refine s_fa zF ?_
 refine zu yA24 ?_
 refine zC yU24 ?_
 refine s_lt ?_
 refine zf (zd ?_)
 refine zm F5 ?_ ?_<;>intro C7 F6
 refine zM 16 (fun B8=>?_)
 refine zi (zd (zb (zl (zb (zb (za ?_))))))
 refine s_fa zF ?_
 refine zu yA24 ?_
 refine s_mv ?_
 obtain ⟨v9,V9,F7⟩:=zc F6
 refine zK Form.row V9 (Form.row_eq _) yE24 ?_
 refine zam yA32 yS32 ?_
 obtain ⟨v10,V10,F8⟩:=zc F7
 refine zv [] (zaN fu _ _ V10) ?_
 refine zf (zd ?_)
 refine zm F8 ?_ ?_<;>intro C11 F9
 refine zb (zb (za ?_))
 refine s_mv ?_
 refine s_eq ?_
 refine s_mv ?_
 refine zp _ 29 F9 ?_ ?_<;>intro C12 F10
 iterate 7 refine r_no rfl ?_
 refine zA ?_
 refine zf (zd (zT rfl (zb (za ?_))))
 refine s_as ?_
 refine zf (zd (zh (zg (zg (zj (zg (zw (zj (zg (zn ?_))))))))))
 cases F10
 exact zk [] [] Tryz.results94
 refine s_fa zF ?_
 refine zu yA24 ?_
 refine s_mv ?_
 refine zh9 rfl ?_
 obtain ⟨v13,V13,F11⟩:=zc F10
 refine zK Form.row V13 (Form.row_eq _) yE24 ?_
 refine zam yA32 yS32 ?_
 obtain ⟨v14,V14,F12⟩:=zc F11
 refine zv [] (zaN fu _ _ V14) ?_
 refine zz ?_
 refine zf (zd ?_)
 refine zm F12 ?_ ?_<;>intro C15 F13
 refine zb (za ?_)
 refine s_as ?_
 refine zf (zd (zh (zg (zg (zj (zg (zw (zj (zg (zn ?_))))))))))
 cases F13
 exact zk [] [] Tryz.results94
 refine zi (zd (zy (zq (zr (zd (za ?_))))))
 refine s_mv ?_
 refine zJ (zas C7 B8 hn_g5) ?_
 refine s_as ?_
 refine zf ?_
 exact s_rn (fu,(g5+1)) ⟨by first | omega | (dsimp only;omega),F13,by first | omega | (dsimp only;omega)⟩
 refine zi (zd (zb (zb (za ?_))))
 refine s_mv ?_
 refine zJ (zas C7 B8 hn_g5) ?_
 refine s_fa zF ?_
 refine zu yA24 ?_
 refine zC yU24 ?_
 refine s_lt ?_
 refine s_mv ?_
 refine zp _ 44 F9 ?_ ?_<;>intro C16 F10
 refine s_fa zF ?_
 refine zu yA24 ?_
 refine s_mv ?_
 refine zJ (zas C7 B8 hn_g5) ?_
 obtain ⟨v17,V17,F11⟩:=zc F10
 refine zK Form.row V17 (Form.row_eq _) yE24 ?_
 refine zam yA32 yS32 ?_
 obtain ⟨v18,V18,F12⟩:=zc F11
 refine zv [] (zaN fu _ _ V18) ?_
 refine zA ?_
 refine zf (zd ?_)
 refine zm F12 ?_ ?_<;>intro C19 F13
 refine zb (zb ?_)
 refine zO yMix (by kernel_rfl) ?_
 refine s_mv ?_
 refine s_fa zF ?_
 refine zu yA24 ?_
 refine s_mv ?_
 obtain ⟨v20,V20,F14⟩:=zc F13
 refine zK Form.row V20 (Form.row_eq _) yE24 ?_
 refine zam yA32 yS32 ?_
 obtain ⟨v21,V21,F15⟩:=zc F14
 refine zv [] (m_spec_l5Rows_ok fu _ _ _ V21) ?_
 refine zaY ?_
 refine s_mv ?_
 refine zp _ 61 F15 ?_ ?_<;>intro C22 F16
 iterate 9 refine r_no rfl ?_
 refine zA ?_
 refine zae (by kernel_rfl) ?_
 refine zd (zT rfl (zb (za ?_)))
 refine s_as ?_
 refine zf (zd (zh (zg (zg (zj (zg (zw (zj (zg (zn ?_))))))))))
 cases F16
 exact zk [] [] Tryz.results94
 refine s_fa zF ?_
 refine zu yA24 ?_
 refine s_mv ?_
 obtain ⟨v23,V23,F17⟩:=zc F16
 refine zK Form.row V23 (Form.row_eq _) yE24 ?_
 refine zam yA32 yS32 ?_
 refine s_mv ?_
 obtain ⟨v24,V24,F18⟩:=zc F17
 refine zv [] (m_spec_l5Less_ok fu _ _ V24) ?_
 obtain ⟨v25,V25,F19⟩:=zc F18
 refine zv [] (ih_m_spec_l5Is fu (by omega) _ _ _ V25) ?_
 refine zaY ?_
 refine zz ?_
 refine zae (by kernel_rfl) ?_
 refine zd ?_
 refine zm F19 ?_ ?_<;>intro C26 F20
 refine zb (za ?_)
 refine s_as ?_
 refine zf (zd (zh (zg (zg (zj (zg (zw (zj (zg (zn ?_))))))))))
 cases F20
 exact zk [] [] Tryz.results94
 refine zi (zd (zy (zq (zr (zd (za ?_))))))
 refine s_mv ?_
 refine zJ (zas C7 B8 hn_g5) ?_
 refine s_as ?_
 refine zf ?_
 exact s_rn (fu,(g5+1)) ⟨by first | omega | (dsimp only;omega),F20,by first | omega | (dsimp only;omega)⟩
 refine zi (zd (zb (za ?_)))
 refine s_fa zF ?_
 refine zu yA24 ?_
 refine s_mv ?_
 obtain ⟨v27,V27,F14⟩:=zc F13
 refine zK Form.row V27 (Form.row_eq _) yE24 ?_
 refine zam yA32 yS32 ?_
 refine s_mv ?_
 obtain ⟨v28,V28,F15⟩:=zc F14
 refine zv [] (ih_m_spec_l5Is fu (by omega) _ _ _ V28) ?_
 refine zaY ?_
 refine zf (zd ?_)
 refine zm F15 ?_ ?_<;>intro C29 F16
 refine zb (za ?_)
 refine s_as ?_
 refine zf (zd (zh (zj (zg (zw (zj (zg (zn ?_))))))))
 cases F16
 exact zk [] [] Tryz.results94
 refine zi (zW (zd (za ?_)))
 refine s_mv ?_
 refine zJ (zas C7 B8 hn_g5) ?_
 refine s_as ?_
 refine zf ?_
 exact s_rn (fu,(g5+1)) ⟨by first | omega | (dsimp only;omega),F16,by first | omega | (dsimp only;omega)⟩
 iterate 7 refine r_no rfl ?_
 refine zz ?_
 refine zf (zd (zaX rfl (zi (zd (zb (za ?_))))))
 refine s_fa zF ?_
 refine zu yA24 ?_
 refine s_mv ?_
 obtain ⟨v30,V30,F11⟩:=zc F10
 refine zK Form.row V30 (Form.row_eq _) yE24 ?_
 refine zam yA32 yS32 ?_
 refine s_mv ?_
 obtain ⟨v31,V31,F12⟩:=zc F11
 refine zv [] (ih_m_spec_l5Is fu (by omega) _ _ _ V31) ?_
 refine zaY ?_
 refine zf (zd ?_)
 refine zm F12 ?_ ?_<;>intro C32 F13
 refine zb (za ?_)
 refine s_as ?_
 refine zf (zd (zh (zj (zg (zw (zj (zg (zn ?_))))))))
 cases F13
 exact zk [] [] Tryz.results94
 refine zi (zW (zd (za ?_)))
 refine s_mv ?_
 refine zJ (zas C7 B8 hn_g5) ?_
 refine s_as ?_
 refine zf ?_
 exact s_rn (fu,(g5+1)) ⟨by first | omega | (dsimp only;omega),F13,by first | omega | (dsimp only;omega)⟩
 refine zy (zq (zo (zr (zd (zb (za ?_))))))
 refine s_as ?_
 refine zf (zd (zh (zn ?_)))
 cases F6
 exact zk [] [] Tryz.results94
theorem m_spec_l5Is_all (fuel:Nat):zhk fuel:=by
 induction fuel using Nat.strongRecOn with
 | _ N ih =>
   cases N with
   | zero=>exact (by intro x1 x2 r h;rw [zel] at h;cases h)
   | succ fu=>exact m_spec_l5Is_st fu (fun k hk=>(ih k (by omega)))
theorem m_spec_l5Is_ok (fuel:Nat):zhk fuel:=(m_spec_l5Is_all fuel)
def m_spec_l5Rule_AC (fuel:Nat):Prop:=∀ (x1:Rule) (x2:(List Form)) (r:Bool),zdz fuel x1 x2=some r→AC Tryz.prog 72 [.ag [.t (.sc (.int .i64 x1.pattern.kind)),.t (.sc (.str x1.pattern.name)),.t (.sc (.int .i64 x1.pattern.n)),.t (.sl (x1.pattern.scopes.map rI)),.t (.sl (x1.pattern.kids.map Form.row)),.t (.sc (.int .i64 x1.template.kind)),.t (.sc (.str x1.template.name)),.t (.sc (.int .i64 x1.template.n)),.t (.sl (x1.template.scopes.map rI)),.t (.sl (x1.template.kids.map Form.row))],.t (.sl (x2.map Form.row))] noOb (.t (.sc (.bool r))) noOb
theorem m_spec_l5Rule_ok (fuel:Nat):m_spec_l5Rule_AC fuel:=by
 intro x1 x2 r F0
 unfold zdz at F0
 refine AC_i [.t (.sc (.bool r))] Tryz.func72 rfl Tryz.ntmps72 ?_
 intro C hC
 refine zb (za ?_)
 refine zaL ?_
 refine s_as ?_
 refine zf (zd (zb ?_))
 refine zO yMix (by kernel_rfl) ?_
 refine s_fa zic ?_
 refine zam yA32 yS32 ?_
 refine s_mv ?_
 obtain ⟨v1,V1,F1⟩:=zc F0
 refine zv [] (m_spec_l4Is_ok fuel _ _ _ V1) ?_
 refine s_mv ?_
 refine zp _ 9 F1 ?_ ?_<;>intro C2 F2
 refine s_fa zic ?_
 refine s_fa zcY ?_
 refine zu yA3 ?_
 refine s_eq ?_
 refine zA ?_
 refine s_mv ?_
 refine zp _ 15 F2 ?_ ?_<;>intro C3 F3
 refine s_fa zic ?_
 refine s_fa zF ?_
 refine zu yA24 ?_
 refine zC yU24 ?_
 refine s_gt ?_
 refine zA ?_
 refine s_mv ?_
 refine zp _ 22 F3 ?_ ?_<;>intro C4 F4
 refine s_fa yF37_1 ?_
 refine zam yA32 yS32 ?_
 obtain ⟨v5,V5,F5⟩:=zc F4
 refine zv [] (zcd fuel _ _ V5) ?_
 refine zA ?_
 refine s_mv ?_
 refine zp _ 27 F5 ?_ ?_<;>intro C6 F6
 refine s_fa yF37_1 ?_
 refine zam yA32 yS32 ?_
 refine s_fa zic ?_
 refine zam yA32 yS32 ?_
 refine s_mv ?_
 obtain ⟨v7,V7,F7⟩:=zc F6
 refine zv [] (m_spec_l5Shape_ok fuel _ _ _ V7) ?_
 obtain ⟨v8,V8,F8⟩:=zc F7
 refine zv [] (m_spec_l5Is_ok fuel _ _ _ V8) ?_
 refine zA ?_
 refine s_as ?_
 refine zae (by kernel_rfl) ?_
 refine zd (zh (zn ?_))
 cases F8
 exact zk [] [] Tryz.results72
 iterate 7 refine r_no rfl ?_
 refine zz ?_
 refine s_as ?_
 refine zae (by kernel_rfl) ?_
 refine zd (zh (zn ?_))
 cases F6
 exact zk [] [] Tryz.results72
 iterate 3 refine r_no rfl ?_
 refine zz ?_
 refine s_mv ?_
 iterate 7 refine r_no rfl ?_
 refine zz ?_
 refine s_as ?_
 refine zae (by kernel_rfl) ?_
 refine zd (zh (zn ?_))
 cases F4
 exact zk [] [] Tryz.results72
 iterate 5 refine r_no rfl ?_
 refine zz ?_
 refine s_mv ?_
 iterate 3 refine r_no rfl ?_
 refine zz ?_
 refine s_mv ?_
 iterate 7 refine r_no rfl ?_
 refine zz ?_
 refine s_as ?_
 refine zae (by kernel_rfl) ?_
 refine zd (zh (zn ?_))
 cases F3
 exact zk [] [] Tryz.results72
 iterate 4 refine r_no rfl ?_
 refine zz ?_
 refine s_mv ?_
 iterate 5 refine r_no rfl ?_
 refine zz ?_
 refine s_mv ?_
 iterate 3 refine r_no rfl ?_
 refine zz ?_
 refine s_mv ?_
 iterate 7 refine r_no rfl ?_
 refine zz ?_
 refine s_as ?_
 refine zae (by kernel_rfl) ?_
 refine zd (zh (zn ?_))
 cases F2
 exact zk [] [] Tryz.results72
def m_spec_l5Rules_AC (fuel:Nat):Prop:=∀ (x1:(List Rule)) (x2:(List Form)) (r:Bool),zfl fuel x1 x2=some r→AC Tryz.prog 35 [.t (.sl (x1.map Rule.row)),.t (.sl (x2.map Form.row))] noOb (.t (.sc (.bool r))) noOb
theorem ziB (fuel:Nat):m_spec_l5Rules_AC fuel:=by
 intro x1 x2 r F0
 unfold zfl at F0
 refine AC_i [.t (.sc (.bool r))] Tryz.func35 rfl Tryz.ntmps35 ?_
 intro C hC
 refine zb (za ?_)
 refine s_as ?_
 refine zf (zd (zb (zb (za ?_))))
 refine s_as ?_
 refine zf (zd (zl ?_))
 refine zaK (β:=Int) [4,5,6,7,8,9,10,11,12,13,14,15,16,17,18,19,20,21,22] [] [] (fun a=>[(5,.t (.sc (.int .i64 a.2)))]) (fun a=>[]) (fun a=>a.1≤fuel∧zcg a.1 x1 x2 a.2=some r) (fuel,0) ⟨Nat.le_refl _,F0⟩ ?_
 clear F0
 rintro ⟨fu,g1⟩ ⟨hl2,F1⟩
 dsimp only at hl2 F1 ⊢
 obtain _ | fu:=fu
 · rw [zcg] at F1;cases F1
 rw [zcg] at F1
 refine zb ?_
 refine zbb (α:=Nat × Bool) [6,7,8,9,10,11,12,13] [] [] (fun a=>[(13,.t (.sc (.bool a.2)))]) (fun a=>[]) (fun a=>a.1≤fu∧zch a.1 x1 x2 g1 a.2=some r) ?_ ?_
 refine za ?_
 refine s_mv ?_
 refine s_mv ?_
 refine zC yU23 ?_
 refine s_lt ?_
 refine s_mv ?_
 refine zp _ 10 F1 ?_ ?_<;>intro C3 F2
 refine s_mv ?_
 refine s_lt ?_
 refine zA ?_
 refine zf ?_
 exact s_jn (fu,(decide (g1 < 10))) ⟨by first | omega | (dsimp only;omega),F2⟩
 refine r_no rfl (r_no rfl ?_)
 refine zz ?_
 refine zf ?_
 exact s_jn (fu,false) ⟨by first | omega | (dsimp only;omega),F2⟩
 clear F1
 rintro ⟨fu,g4⟩ ⟨hl5,F2⟩
 dsimp only at hl5 F2 ⊢
 obtain _ | fu:=fu
 · rw [zch] at F2;cases F2
 rw [zch] at F2
 refine zm F2 ?_ ?_<;>intro C6 F3
 refine zi (zd (zb (zl (zb (za ?_)))))
 refine s_mv ?_
 refine s_mv ?_
 obtain ⟨v7,V7,F4⟩:=zc F3
 refine zK Rule.row V7 (Rule.row_eq _) yE23 ?_
 refine zam yA37 yS37 ?_
 refine s_mv ?_
 obtain ⟨v8,V8,F5⟩:=zc F4
 refine zv [] (m_spec_l5Rule_ok fu _ _ _ V8) ?_
 refine zaY ?_
 refine zf (zd ?_)
 refine zm F5 ?_ ?_<;>intro C9 F6
 refine zb (za ?_)
 refine s_as ?_
 refine zf (zd (zh (zj (zg (zw (zj (zg (zn ?_))))))))
 cases F6
 exact zk [] [] Tryz.results35
 refine zi (zW (zd (za ?_)))
 refine s_mv ?_
 refine zJ rfl ?_
 refine s_as ?_
 refine zf ?_
 exact s_rn (fu,(w64 (g1+1))) ⟨by first | omega | (dsimp only;omega),F6⟩
 refine zy (zq (zo (zr (zd (zb (za ?_))))))
 refine s_mv ?_
 refine zC yU23 ?_
 refine s_lt ?_
 refine s_mv ?_
 refine zp _ 26 F3 ?_ ?_<;>intro C10 F4
 refine s_mv ?_
 obtain ⟨v11,V11,F5⟩:=zc F4
 refine zv [] (zhI fu _ _ V11) ?_
 refine zA ?_
 refine s_as ?_
 refine zf (zd (zh (zn ?_)))
 cases F5
 exact zk [] [] Tryz.results35
 refine r_no rfl (r_no rfl ?_)
 refine zz ?_
 refine s_as ?_
 refine zf (zd (zh (zn ?_)))
 cases F4
 exact zk [] [] Tryz.results35
def m_spec_ParseRules_AC (fuel:Nat):Prop:=∀ (x1:Form) (r:((List Form) × (List Rule) × Bool)),zcS fuel x1=some r→AC Tryz.prog 64 [.ag [.t (.sc (.int .i64 x1.kind)),.t (.sc (.str x1.name)),.t (.sc (.int .i64 x1.n)),.t (.sl (x1.scopes.map rI)),.t (.sl (x1.kids.map Form.row))]] (objs []) (.tp [.t (.sl (r.1.map Form.row)),.ar 9300,.t (.sc (.bool r.2.2))]) (objs [(9300,.arr (r.2.1.map Rule.row) 37 false)])
theorem zhK (fuel:Nat):m_spec_ParseRules_AC fuel:=by
 intro x1 r F0
 unfold zcS at F0
 refine AC_i [.t (.sl (r.1.map Form.row)),.ar 9300,.t (.sc (.bool r.2.2))] Tryz.func64 rfl Tryz.ntmps64 ?_
 intro C hC
 refine zb (za ?_)
 refine zaL ?_
 iterate 3 refine s_as ?_
 refine zf (zd (zb (za ?_)))
 refine s_bs Form.row ([]:List Form) yP24 yR32 ?_
 refine s_as ?_
 refine zf (zd (zb (za ?_)))
 refine s_bs Rule.row ([]:List Rule) yP23 yR37 ?_
 refine s_as ?_
 refine zf (zd (zb ?_))
 refine zbb (α:=Nat × Bool) [11,12,13,14,15,16,17,18,19,20,21,22,23,24,25,26,27,28,29,30,31,32,33,34,35,36,37,38,39,40] [] [] (fun a=>[(40,.t (.sc (.bool a.2)))]) (fun a=>[]) (fun a=>a.1≤fuel∧zaB a.1 x1 a.2=some r) ?_ ?_
 refine za ?_
 refine zI yA32 yS32 ?_
 obtain ⟨v1,V1,F1⟩:=zc F0
 refine zv [] (zcd fuel _ _ V1) ?_
 refine zaY ?_
 refine s_mv ?_
 refine zp _ 14 F1 ?_ ?_<;>intro C2 F2
 iterate 3 refine r_no rfl ?_
 refine zA ?_
 refine s_mv ?_
 iterate 4 refine r_no rfl ?_
 refine zA ?_
 refine s_mv ?_
 iterate 6 refine r_no rfl ?_
 refine zA ?_
 refine s_mv ?_
 iterate 6 refine r_no rfl ?_
 refine zA ?_
 refine zf ?_
 exact s_jn (fuel,true) ⟨by first | omega | (dsimp only;omega),F2⟩
 refine s_fa zcY ?_
 refine zu yA3 ?_
 refine s_ne ?_
 refine zz ?_
 refine s_mv ?_
 refine zp _ 19 F2 ?_ ?_<;>intro C3 F3
 iterate 4 refine r_no rfl ?_
 refine zA ?_
 refine s_mv ?_
 iterate 6 refine r_no rfl ?_
 refine zA ?_
 refine s_mv ?_
 iterate 6 refine r_no rfl ?_
 refine zA ?_
 refine zf ?_
 exact s_jn (fuel,true) ⟨by first | omega | (dsimp only;omega),F3⟩
 refine s_fa zF ?_
 refine zu yA24 ?_
 refine zC yU24 ?_
 refine s_lt ?_
 refine zz ?_
 refine s_mv ?_
 refine zp _ 25 F3 ?_ ?_<;>intro C4 F4
 iterate 6 refine r_no rfl ?_
 refine zA ?_
 refine s_mv ?_
 iterate 6 refine r_no rfl ?_
 refine zA ?_
 refine zf ?_
 exact s_jn (fuel,true) ⟨by first | omega | (dsimp only;omega),F4⟩
 refine s_fa zF ?_
 refine zu yA24 ?_
 obtain ⟨v5,V5,F5⟩:=zc F4
 refine zK Form.row V5 (Form.row_eq _) yE24 ?_
 refine s_fa zcm ?_
 refine zu yA9 ?_
 refine s_neS ?_
 refine zz ?_
 refine s_mv ?_
 refine zp _ 33 F5 ?_ ?_<;>intro C6 F6
 iterate 6 refine r_no rfl ?_
 refine zA ?_
 refine zf ?_
 exact s_jn (fuel,true) ⟨by first | omega | (dsimp only;omega),F6⟩
 refine s_fa zF ?_
 refine zu yA24 ?_
 obtain ⟨v7,V7,F7⟩:=zc F6
 refine zK Form.row V7 (Form.row_eq _) yE24 ?_
 refine s_fa zcY ?_
 refine zu yA3 ?_
 refine s_ne ?_
 refine zz ?_
 refine zf ?_
 exact s_jn (fuel,(decide (v7.kind≠3))) ⟨by first | omega | (dsimp only;omega),F7⟩
 clear F0
 rintro ⟨fu,g8⟩ ⟨hl9,F1⟩
 dsimp only at hl9 F1 ⊢
 obtain _ | fu:=fu
 · rw [zaB] at F1;cases F1
 rw [zaB] at F1
 refine zm F1 ?_ ?_<;>intro C10 F2
 refine zb (za ?_)
 refine s_mv ?_
 refine s_mv ?_
 iterate 3 refine s_as ?_
 refine zf (zd ?_)
 refine zcZ 3 10 9300 (by conv=>lhs;whnf) (by conv=>lhs;whnf) rfl ?_
 refine awp_frz 9300 (by conv=>lhs;whnf) ?_
 refine zh (zg (zn ?_))
 cases F2
 exact zk _ [9] Tryz.results64
 refine zi (zd ?_)
 refine zbb (α:=Nat × (List Form)) [5,7,43,44,45,46,47,48,49,50,51,52,53,54,55,56,57,58,59,60,61,62,63,64] [9,5060] [] (fun a=>[(5,.ar 5060)]) (fun a=>[(9,.dead),(5060,.arr (a.2.map Form.row) 32 true)]) (fun a=>a.1≤fu∧zcv a.1 x1 a.2=some r) ?_ ?_
 refine zb (za ?_)
 refine s_as ?_
 refine zf (zd (zl ?_))
 refine zcZ 5 9 5060 (by conv=>lhs;whnf) (by conv=>lhs;whnf) rfl ?_
 refine zal [5,7,43,44,45,46,47,48,49,50,51,52,53,54,55,56,57,58,59,60,61,62,63,64] [5060] [63,64,2062,12062] [5060] (fun a:Nat × (List Form) × Int=>a.1) (fun a:Nat × (List Form) × Int=>[(5,.ar 5060),(7,.t (.sc (.int .i64 a.2.2)))]) (fun a:Nat × (List Form) × Int=>[(5060,.arr (a.2.1.map Form.row) 32 true)]) (fun a:Nat × (List Form) × Int=>a.1≤fu∧zbs a.1 x1 a.2.1 a.2.2=some r∧0≤a.2.2) (fu,([]:List Form),0) ⟨Nat.le_refl _,F2,by simp⟩ (by rfl) (by rfl) (fun _=>rfl) (zH (by conv=>lhs;whnf) (by rfl) (zH (by conv=>lhs;whnf) (by rfl) zaV)) (zL (by conv=>lhs;whnf) (by rfl) zaG) (zbM hC rfl) (by repeat (first | exact z6 rfl | refine zaj rfl ?_ | refine zP rfl ?_)) (by repeat (first | exact zax | exact z9 rfl | refine zak rfl ?_ | refine zQ rfl ?_)) ?_
 clear F2
 rintro ⟨fu,g11,g12⟩ ⟨hl13,F3,hn_g12⟩
 dsimp only at hl13 F3 hn_g12 ⊢
 obtain _ | fu:=fu
 · rw [zbs] at F3;cases F3
 rw [zbs] at F3
 refine zb (zb (za ?_))
 refine s_mv ?_
 refine s_fa zF ?_
 refine zu yA24 ?_
 obtain ⟨v14,V14,F4⟩:=zc F3
 refine zK Form.row V14 (Form.row_eq _) yE24 ?_
 refine s_fa zF ?_
 refine zu yA24 ?_
 refine zC yU24 ?_
 refine s_lt ?_
 refine zf (zd ?_)
 refine zm F4 ?_ ?_<;>intro C15 F5
 refine zM 48 (fun B16=>?_)
 refine zi (zd (zb (zl (za ?_))))
 refine s_mv ?_
 refine s_fa zF ?_
 refine zu yA24 ?_
 obtain ⟨v17,V17,F6⟩:=zc F5
 refine zK Form.row V17 (Form.row_eq _) yE24 ?_
 refine s_fa zF ?_
 refine zu yA24 ?_
 refine s_mv ?_
 obtain ⟨v18,V18,F7⟩:=zc F6
 refine zK Form.row V18 (Form.row_eq _) yE24 ?_
 refine zam yA32 yS32 ?_
 obtain ⟨v19,V19,F8⟩:=zc F7
 refine zY [(9203,2062),(9204,12062)] [] _ _ (zd7 fu _ _ V19) ?_
 refine s_bs Form.row [v19] yP24 yR32 ?_
 obtain ⟨hk20,F9⟩:=zad F8
 refine zek Form.row (fun y=>Form.row_len y) hk20 yP24 ?_
 refine s_as ?_
 refine zf (zW (zd (za ?_)))
 refine s_mv ?_
 refine zJ (zas C15 B16 hn_g12) ?_
 refine s_as ?_
 refine zf ?_
 exact s_rn (fu,(g11++[v19]),(g12+1)) ⟨by first | omega | (dsimp only;omega),F9,by first | omega | (dsimp only;omega)⟩ [(5060,64)]
 refine zy (zq (zo (zr ?_)))
 exact s_jn (fu,g11) ⟨by first | omega | (dsimp only;omega),F5⟩
 clear F2
 rintro ⟨fu,g21⟩ ⟨hl22,F3⟩
 dsimp only at hl22 F3 ⊢
 obtain _ | fu:=fu
 · rw [zcv] at F3;cases F3
 rw [zcv] at F3
 refine zbb (α:=Nat × (List Rule)) [2,3,4,6,8,65,66,67,68,69,70,71,72,73,74,75,76,77,78,79,80,81,82,83,84,85,86,87,88,89,90,91,92,93,94,95,96,97,98,99,100,101,102,103,104,105,106,107,108,109,110,111,112] [10,5100] [] (fun a=>[(6,.ar 5100)]) (fun a=>[(10,.dead),(5100,.arr (a.2.map Rule.row) 37 true)]) (fun a=>a.1≤fu∧zdv a.1 g21 a.2=some r) ?_ ?_
 refine zb (za ?_)
 refine s_as ?_
 refine zf (zd (zl ?_))
 refine zcZ 6 10 5100 (by conv=>lhs;whnf) (by conv=>lhs;whnf) rfl ?_
 refine zal [2,3,4,6,8,65,66,67,68,69,70,71,72,73,74,75,76,77,78,79,80,81,82,83,84,85,86,87,88,89,90,91,92,93,94,95,96,97,98,99,100,101,102,103,104,105,106,107,108,109,110,111,112] [5100] [111,112,2100,2109,12100,12109] [5100] (fun a:Nat × (List Rule) × Int=>a.1) (fun a:Nat × (List Rule) × Int=>[(6,.ar 5100),(8,.t (.sc (.int .i64 a.2.2)))]) (fun a:Nat × (List Rule) × Int=>[(5100,.arr (a.2.1.map Rule.row) 37 true)]) (fun a:Nat × (List Rule) × Int=>a.1≤fu∧zbr a.1 x1 g21 a.2.1 a.2.2=some r∧0≤a.2.2) (fu,([]:List Rule),2) ⟨Nat.le_refl _,F3,by simp⟩ (by rfl) (by rfl) (fun _=>rfl) (zH (by conv=>lhs;whnf) (by rfl) (zH (by conv=>lhs;whnf) (by rfl) zaV)) (zL (by conv=>lhs;whnf) (by rfl) zaG) (zbM hC rfl) (by repeat (first | exact z6 rfl | refine zaj rfl ?_ | refine zP rfl ?_)) (by repeat (first | exact zax | exact z9 rfl | refine zak rfl ?_ | refine zQ rfl ?_)) ?_
 clear F3
 rintro ⟨fu,g23,g24⟩ ⟨hl25,F4,hn_g24⟩
 dsimp only at hl25 F4 hn_g24 ⊢
 obtain _ | fu:=fu
 · rw [zbr] at F4;cases F4
 rw [zbr] at F4
 refine zb (zb (za ?_))
 refine s_mv ?_
 refine s_fa zF ?_
 refine zu yA24 ?_
 refine zC yU24 ?_
 refine s_lt ?_
 refine zf (zd ?_)
 refine zm F4 ?_ ?_<;>intro C26 F5
 refine zM 67 (fun B27=>?_)
 refine zi (zd (zb (zl (zb ?_))))
 refine zbb (α:=Nat × Bool) [72,73,74,75,76,77,78,79,80,81,82,83,84,85,86,87,88] [] [] (fun a=>[(88,.t (.sc (.bool a.2)))]) (fun a=>[]) (fun a=>a.1≤fu∧zbt a.1 x1 g21 g23 g24 a.2=some r) ?_ ?_
 refine za ?_
 refine s_fa zF ?_
 refine zu yA24 ?_
 refine s_mv ?_
 obtain ⟨v28,V28,F6⟩:=zc F5
 refine zK Form.row V28 (Form.row_eq _) yE24 ?_
 refine s_fa zcY ?_
 refine zu yA3 ?_
 refine s_ne ?_
 refine s_mv ?_
 refine zp _ 79 F6 ?_ ?_<;>intro C29 F7
 iterate 8 refine r_no rfl ?_
 refine zA ?_
 refine zf ?_
 exact s_jn (fu,true) ⟨by first | omega | (dsimp only;omega),F7⟩
 refine s_fa zF ?_
 refine zu yA24 ?_
 refine s_mv ?_
 obtain ⟨v30,V30,F8⟩:=zc F7
 refine zK Form.row V30 (Form.row_eq _) yE24 ?_
 refine s_fa zF ?_
 refine zu yA24 ?_
 refine zC yU24 ?_
 refine s_ne ?_
 refine zz ?_
 refine zf ?_
 exact s_jn (fu,(decide ((v30.kids.length:Int)≠2))) ⟨by first | omega | (dsimp only;omega),F8⟩
 clear F5
 rintro ⟨fu,g31⟩ ⟨hl32,F6⟩
 dsimp only at hl32 F6 ⊢
 obtain _ | fu:=fu
 · rw [zbt] at F6;cases F6
 rw [zbt] at F6
 refine zm F6 ?_ ?_<;>intro C33 F7
 refine zb (za ?_)
 refine s_bs Form.row ([]:List Form) yP24 yR32 ?_
 refine s_bs Rule.row ([]:List Rule) yP23 yR37 ?_
 iterate 3 refine s_as ?_
 refine zf (zd ?_)
 refine zcZ 3 90 9300 (by conv=>lhs;whnf) (by conv=>lhs;whnf) rfl ?_
 refine awp_frz 9300 (by conv=>lhs;whnf) ?_
 refine zh (zg (zj (zg (zw (zj (zew (zn ?_)))))))
 cases F7
 exact zk _ [89] Tryz.results64
 refine zi (zd ?_)
 refine zO yMix (by kernel_rfl) ?_
 refine s_mv ?_
 refine s_fa zF ?_
 refine zu yA24 ?_
 refine s_mv ?_
 obtain ⟨v34,V34,F8⟩:=zc F7
 refine zK Form.row V34 (Form.row_eq _) yE24 ?_
 refine s_fa zF ?_
 refine zu yA24 ?_
 obtain ⟨v35,V35,F9⟩:=zc F8
 refine zK Form.row V35 (Form.row_eq _) yE24 ?_
 refine zam yA32 yS32 ?_
 obtain ⟨v36,V36,F10⟩:=zc F9
 refine zY [(9203,2100),(9204,12100)] [] _ _ (zd7 fu _ _ V36) ?_
 refine s_fa zF ?_
 refine zu yA24 ?_
 refine s_mv ?_
 obtain ⟨v37,V37,F11⟩:=zc F10
 refine zK Form.row V37 (Form.row_eq _) yE24 ?_
 refine s_fa zF ?_
 refine zu yA24 ?_
 obtain ⟨v38,V38,F12⟩:=zc F11
 refine zK Form.row V38 (Form.row_eq _) yE24 ?_
 refine zam yA32 yS32 ?_
 obtain ⟨v39,V39,F13⟩:=zc F12
 refine zY [(9203,2109),(9204,12109)] [] _ _ (zd7 fu _ _ V39) ?_
 refine zgD yZ37 yL37 ?_
 refine s_bs Rule.row [(Rule.mk v36 v39)] yP23 yR37 ?_
 obtain ⟨hk40,F14⟩:=zad F13
 refine zek Rule.row (fun y=>Rule.row_len y) hk40 yP23 ?_
 refine s_as ?_
 refine zae (by kernel_rfl) ?_
 refine zW (zd (za ?_))
 refine s_mv ?_
 refine zJ (zas C26 B27 hn_g24) ?_
 refine s_as ?_
 refine zf ?_
 exact s_rn (fu,(g23++[(Rule.mk v36 v39)]),(g24+1)) ⟨by first | omega | (dsimp only;omega),F14,by first | omega | (dsimp only;omega)⟩ [(5100,112)]
 refine zy (zq (zo (zr ?_)))
 exact s_jn (fu,g23) ⟨by first | omega | (dsimp only;omega),F5⟩
 clear F3
 rintro ⟨fu,g41⟩ ⟨hl42,F4⟩
 dsimp only at hl42 F4 ⊢
 obtain _ | fu:=fu
 · rw [zdv] at F4;cases F4
 rw [zdv] at F4
 refine zb (zb (za ?_))
 refine s_mv ?_
 refine s_mv ?_
 obtain ⟨v43,V43,F5⟩:=zc F4
 refine zv [5100,5060] (ziB fu _ _ _ V43) ?_
 refine zaY ?_
 refine zf (zd ?_)
 refine zm F5 ?_ ?_<;>intro C44 F6
 refine zb (za ?_)
 refine s_bs Form.row ([]:List Form) yP24 yR32 ?_
 refine s_bs Rule.row ([]:List Rule) yP23 yR37 ?_
 iterate 3 refine s_as ?_
 refine zf (zd ?_)
 refine zcZ 3 118 9300 (by conv=>lhs;whnf) (by conv=>lhs;whnf) rfl ?_
 refine awp_frz 9300 (by conv=>lhs;whnf) ?_
 refine zh (zg (zn ?_))
 cases F6
 exact zk _ [117] Tryz.results64
 refine zi (zd (zb (za ?_)))
 refine s_mv ?_
 refine s_mv ?_
 iterate 3 refine s_as ?_
 refine zf (zd ?_)
 refine zcZ 3 5100 9300 (by conv=>lhs;whnf) (by conv=>lhs;whnf) rfl ?_
 refine zh (zn ?_)
 cases F6
 exact zk _ [5060] Tryz.results64
def zfY (fuel:Nat):Prop:=∀ (o1:zb7) (x2:Form) (r:(Form × zb7)),zb3 fuel o1 x2=some r→AC Tryz.prog 65 [.rf 9000 0,.ag [.t (.sc (.int .i64 x2.kind)),.t (.sc (.str x2.name)),.t (.sc (.int .i64 x2.n)),.t (.sl (x2.scopes.map rI)),.t (.sl (x2.kids.map Form.row))]] (objs [(9000,.box [.t (.sl (o1.b.map rB)),.t (.sc (.int .i64 o1.p))])]) (.ag [.t (.sc (.int .i64 r.1.kind)),.t (.sc (.str r.1.name)),.t (.sc (.int .i64 r.1.n)),.t (.sl (r.1.scopes.map rI)),.t (.sl (r.1.kids.map Form.row))]) (objs [(9000,.box [.t (.sl (r.2.b.map rB)),.t (.sc (.int .i64 r.2.p))])])
theorem m_spec_l1Dress_st (fu:Nat) (ih_m_spec_l1Dress:∀ k,k≤fu→zfY k):zfY (fu+1):=by
 intro o1 x2 r F0
 rw [zb3] at F0
 refine AC_i [.ag [.t (.sc (.int .i64 r.1.kind)),.t (.sc (.str r.1.name)),.t (.sc (.int .i64 r.1.n)),.t (.sl (r.1.scopes.map rI)),.t (.sl (r.1.kids.map Form.row))]] Tryz.func65 rfl Tryz.ntmps65 ?_
 intro C hC
 refine zb (za ?_)
 refine zaL ?_
 refine zU yZ32 ?_
 refine zf (zd (zb (za ?_)))
 refine zI yA32 yS32 ?_
 obtain ⟨v1,V1,F1⟩:=zc F0
 refine zY [(9203,2009),(9204,12009)] [] _ _ (zd7 fu _ _ V1) ?_
 refine zU yZ32 ?_
 refine zac yS32 ?_
 refine zf (zd (zb (zb (za ?_))))
 refine s_fa zcY ?_
 refine zu yA3 ?_
 refine s_eq ?_
 refine zf (zd ?_)
 refine zm F1 ?_ ?_<;>intro C2 F2
 refine zb (za ?_)
 refine s_bs rI ([]:List Int) yP27 yR3 ?_
 refine s_bs rI [1] yP27 yR3 ?_
 refine s_bs rI [2] yP27 yR3 ?_
 refine s_bs rI [1,2] yP27 yR3 ?_
 refine s_bs rI [1,3] yP27 yR3 ?_
 refine s_bs rI [1,2,3] yP27 yR3 ?_
 refine s_bs rI [99] yP27 yR3 ?_
 refine s_bs (rL rI) [([]:List Int),[1],[2],[1,2],[1,3],[1,2,3],[99]] yP129 yR27 ?_
 refine s_as ?_
 refine zf (zd (za ?_))
 refine s_bs rI ([]:List Int) yP27 yR3 ?_
 iterate 3 refine s_mv ?_
 refine zg8 yU129 ?_
 obtain ⟨v3,V3,F3⟩:=zc F2
 refine zY [(9000,9000)] [] _ _ (zaA fu _ _ _ V3) ?_
 obtain ⟨v4,V4,F4⟩:=zc F3
 refine zis (rL rI) V4 yE129 ?_
 refine s_lA1 (rL rI) V4 rfl yA27 ?_
 obtain ⟨hk5,F5⟩:=zad F4
 refine zek rI (fun _=>rfl) hk5 yP27 ?_
 refine s_fa zf3 ?_
 refine zia yS27 ?_
 refine zf (zd (zb (zb (za ?_))))
 refine s_as ?_
 refine zf (zd (zl ?_))
 refine zaK (β:=Int × (List Int) × Int × (List Form)) [7,31,32,33,34,35,36,37,38,39,40,41,42,43,44,45,46,47,48] [9000,12009] [] (fun a=>[(7,.t (.sc (.int .i64 a.2.1)))]) (fun a=>[(9000,.box [.t (.sl (a.2.2.1.map rB)),.t (.sc (.int .i64 a.2.2.2.1))]),(12009,.arr (a.2.2.2.2.map Form.row) 32 true)]) (fun a=>a.1≤fu∧zcP a.1 v1 v4 a.2.1 a.2.2.1 a.2.2.2.1 a.2.2.2.2=some r∧0≤a.2.1) (fu,0,v3.2.b,v3.2.p,v1.kids) ⟨Nat.le_refl _,F5,by simp⟩ ?_
 clear F5
 rintro ⟨fu,g6,g7,g8,g9⟩ ⟨hl10,F6,hn_g6⟩
 dsimp only at hl10 F6 hn_g6 ⊢
 obtain _ | fu:=fu
 · rw [zcP] at F6;cases F6
 rw [zcP] at F6
 refine zb (zb (za ?_))
 refine s_mv ?_
 refine s_fa zF ?_
 refine zu yA24 ?_
 refine zg8 yU24 ?_
 refine s_lt ?_
 refine zf (zd ?_)
 refine zm F6 ?_ ?_<;>intro C11 F7
 refine ziq 33 12009 (fun B12=>?_)
 refine zi (zd (zb (zl ?_)))
 refine zO yMix (by kernel_rfl) ?_
 refine s_fa zF ?_
 refine zu yA24 ?_
 refine s_mv ?_
 refine s_mv ?_
 refine s_fa zF ?_
 refine zu yA24 ?_
 refine s_mv ?_
 obtain ⟨v13,V13,F8⟩:=zc F7
 refine zis Form.row V13 yE24 ?_
 refine s_lAN Form.row V13 (Form.row_eq _) yA32 yS32 ?_
 obtain ⟨v14,V14,F9⟩:=zc F8
 refine zY [(9000,9000)] [] _ _ (ih_m_spec_l1Dress fu (by omega) _ _ _ V14) ?_
 obtain ⟨v15,V15,F10⟩:=zc F9
 refine zis Form.row V15 yE24 ?_
 refine s_stA Form.row v14.1 V15 (Form.row_eq _) (Form.row_eq _) yS32 yS32 ?_
 refine zae (by kernel_rfl) ?_
 refine zW (zd (za ?_))
 refine s_mv ?_
 refine zJ (zas C11 B12 hn_g6) ?_
 refine s_as ?_
 refine zf ?_
 exact s_rn (fu,(g6+1),v14.2.b,v14.2.p,(g9.set g6.toNat v14.1)) ⟨by first | omega | (dsimp only;omega),F10,by first | omega | (dsimp only;omega)⟩
 refine zy (zq (zo (zr (zd (zb (za ?_))))))
 refine zI yA32 yS32 ?_
 refine zac yS32 ?_
 refine zf (zd (zh (zn ?_)))
 cases F7
 exact z4 _ [29,12009] (by rw [Tryz.results65];exact (zat (by conv=>lhs;whnf) (by conv=>lhs;whnf) yA32 yS32 rfl zaf))
 refine zi (zd (zb (zb (za ?_))))
 refine s_as ?_
 refine zf (zd (zl ?_))
 refine zaK (β:=Int × (List Int) × Int × (List Form)) [7,31,32,33,34,35,36,37,38,39,40,41,42,43,44,45,46,47,48] [9000,12009] [] (fun a=>[(7,.t (.sc (.int .i64 a.2.1)))]) (fun a=>[(9000,.box [.t (.sl (a.2.2.1.map rB)),.t (.sc (.int .i64 a.2.2.2.1))]),(12009,.arr (a.2.2.2.2.map Form.row) 32 true)]) (fun a=>a.1≤fu∧zcO a.1 v1 a.2.1 a.2.2.1 a.2.2.2.1 a.2.2.2.2=some r∧0≤a.2.1) (fu,0,o1.b,o1.p,v1.kids) ⟨Nat.le_refl _,F2,by simp⟩ ?_
 clear F2
 rintro ⟨fu,g16,g17,g18,g19⟩ ⟨hl20,F3,hn_g16⟩
 dsimp only at hl20 F3 hn_g16 ⊢
 obtain _ | fu:=fu
 · rw [zcO] at F3;cases F3
 rw [zcO] at F3
 refine zb (zb (za ?_))
 refine s_mv ?_
 refine s_fa zF ?_
 refine zu yA24 ?_
 refine zg8 yU24 ?_
 refine s_lt ?_
 refine zf (zd ?_)
 refine zm F3 ?_ ?_<;>intro C21 F4
 refine ziq 33 12009 (fun B22=>?_)
 refine zi (zd (zb (zl ?_)))
 refine zO yMix (by kernel_rfl) ?_
 refine s_fa zF ?_
 refine zu yA24 ?_
 refine s_mv ?_
 refine s_mv ?_
 refine s_fa zF ?_
 refine zu yA24 ?_
 refine s_mv ?_
 obtain ⟨v23,V23,F5⟩:=zc F4
 refine zis Form.row V23 yE24 ?_
 refine s_lAN Form.row V23 (Form.row_eq _) yA32 yS32 ?_
 obtain ⟨v24,V24,F6⟩:=zc F5
 refine zY [(9000,9000)] [] _ _ (ih_m_spec_l1Dress fu (by omega) _ _ _ V24) ?_
 obtain ⟨v25,V25,F7⟩:=zc F6
 refine zis Form.row V25 yE24 ?_
 refine s_stA Form.row v24.1 V25 (Form.row_eq _) (Form.row_eq _) yS32 yS32 ?_
 refine zae (by kernel_rfl) ?_
 refine zW (zd (za ?_))
 refine s_mv ?_
 refine zJ (zas C21 B22 hn_g16) ?_
 refine s_as ?_
 refine zf ?_
 exact s_rn (fu,(g16+1),v24.2.b,v24.2.p,(g19.set g16.toNat v24.1)) ⟨by first | omega | (dsimp only;omega),F7,by first | omega | (dsimp only;omega)⟩
 refine zy (zq (zo (zr (zd (zb (za ?_))))))
 refine zI yA32 yS32 ?_
 refine zac yS32 ?_
 refine zf (zd (zh (zn ?_)))
 cases F4
 exact z4 _ [2009,12009] (by rw [Tryz.results65];exact (zat (by conv=>lhs;whnf) (by conv=>lhs;whnf) yA32 yS32 rfl zaf))
end Go.Abs
