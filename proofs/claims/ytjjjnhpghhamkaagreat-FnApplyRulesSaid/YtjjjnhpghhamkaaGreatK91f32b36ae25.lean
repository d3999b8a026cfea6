/- A part of the proof: what the functions that the law calls answer, as pure values. -/
import Derived.Test.YtjjjnhpghhamkaaGreatK8d582f2e31e6
import Derived.Test.YtjjjnhpghhamkaaGreatK135f79d6a7aa
import Derived.Test.YtjjjnhpghhamkaaGreatK4ee70f842008
import Derived.Test.YtjjjnhpghhamkaaGreatKaa13c66553ec
import Derived.Test.YtjjjnhpghhamkaaGreatK4f5429558fbb
import Derived.Test.YtjjjnhpghhamkaaGreatK06634278733b
import Derived.Test.YtjjjnhpghhamkaaGreatK8faf616840a9
import Derived.Test.YtjjjnhpghhamkaaGreatK17021f080395
import Derived.Test.YtjjjnhpghhamkaaGreatKcd84e5c3a6fe
import Derived.Test.YtjjjnhpghhamkaaGreatK48decf646e3b
import Derived.Test.YtjjjnhpghhamkaaGreatKfe938720da0d
set_option linter.unusedSimpArgs false
set_option linter.unusedVariables false
set_option maxRecDepth 100000
set_option maxHeartbeats 4000000
namespace Go.Abs
open Go.Proofs
def m_spec_ParseRules_AC (fuel:Nat):Prop:=∀ (x1:Form) (r:((List Form) × (List Rule) × Bool)),zcW fuel x1=some r→AC Tryz.prog 157 [.ag [.t (.sc (.int .i64 x1.kind)),.t (.sc (.str x1.name)),.t (.sc (.int .i64 x1.n)),.t (.sl (x1.scopes.map rI)),.t (.sl (x1.kids.map Form.row))]] noOb (.tp [.t (.sl (r.1.map Form.row)),.t (.sl (r.2.1.map Rule.row)),.t (.sc (.bool r.2.2))]) noOb
theorem zhN (fuel:Nat):m_spec_ParseRules_AC fuel:=by
 intro x1 r F0
 unfold zcW at F0
 refine AC_i [.t (.sl (r.1.map Form.row)),.t (.sl (r.2.1.map Rule.row)),.t (.sc (.bool r.2.2))] Tryz.func157 rfl Tryz.ntmps157 ?_
 intro C hC
 refine zb (za ?_)
 refine zaN ?_
 iterate 3 refine s_as ?_
 refine zf (zd (zb (za ?_)))
 refine s_bs Form.row ([]:List Form) yP25 yR27 ?_
 refine s_as ?_
 refine zf (zd (zb (za ?_)))
 refine s_bs Rule.row ([]:List Rule) yP62 yR73 ?_
 refine s_as ?_
 refine zf (zd (zb ?_))
 refine za2 (α:=Nat × Bool) [11,12,13,14,15,16,17,18,19,20,21,22,23,24,25,26,27,28,29,30,31,32,33,34,35,36,37,38,39,40] [] [] (fun a=>[(40,.t (.sc (.bool a.2)))]) (fun a=>[]) (fun a=>a.1≤fuel∧zaC a.1 x1 a.2=some r) ?_ ?_
 refine za ?_
 refine zG yA27 yS27 ?_
 obtain ⟨v1,V1,F1⟩:=zc F0
 refine zv [] (zcf fuel _ _ V1) ?_
 refine zaG ?_
 refine s_mv ?_
 refine zo _ 14 F1 ?_ ?_<;>intro C2 F2
 iterate 3 refine r_no rfl ?_
 refine zA ?_
 refine s_mv ?_
 iterate 4 refine r_no rfl ?_
 refine zA ?_
 refine s_mv ?_
 iterate 6 refine r_no rfl ?_
 refine zA ?_
 refine s_mv ?_
 iterate 6 refine r_no rfl ?_
 refine zA ?_
 refine zf ?_
 exact s_jn (fuel,true) ⟨by first | omega | (dsimp only;omega),F2⟩
 refine s_fa zc1 ?_
 refine zu yA3 ?_
 refine s_ne ?_
 refine zy ?_
 refine s_mv ?_
 refine zo _ 19 F2 ?_ ?_<;>intro C3 F3
 iterate 4 refine r_no rfl ?_
 refine zA ?_
 refine s_mv ?_
 iterate 6 refine r_no rfl ?_
 refine zA ?_
 refine s_mv ?_
 iterate 6 refine r_no rfl ?_
 refine zA ?_
 refine zf ?_
 exact s_jn (fuel,true) ⟨by first | omega | (dsimp only;omega),F3⟩
 refine s_fa zF ?_
 refine zu yA25 ?_
 refine zC yU25 ?_
 refine s_lt ?_
 refine zy ?_
 refine s_mv ?_
 refine zo _ 25 F3 ?_ ?_<;>intro C4 F4
 iterate 6 refine r_no rfl ?_
 refine zA ?_
 refine s_mv ?_
 iterate 6 refine r_no rfl ?_
 refine zA ?_
 refine zf ?_
 exact s_jn (fuel,true) ⟨by first | omega | (dsimp only;omega),F4⟩
 refine s_fa zF ?_
 refine zu yA25 ?_
 obtain ⟨v5,V5,F5⟩:=zc F4
 refine zK Form.row V5 (Form.row_eq _) yE25 ?_
 refine s_fa zcp ?_
 refine zu yA9 ?_
 refine s_neS ?_
 refine zy ?_
 refine s_mv ?_
 refine zo _ 33 F5 ?_ ?_<;>intro C6 F6
 iterate 6 refine r_no rfl ?_
 refine zA ?_
 refine zf ?_
 exact s_jn (fuel,true) ⟨by first | omega | (dsimp only;omega),F6⟩
 refine s_fa zF ?_
 refine zu yA25 ?_
 obtain ⟨v7,V7,F7⟩:=zc F6
 refine zK Form.row V7 (Form.row_eq _) yE25 ?_
 refine s_fa zc1 ?_
 refine zu yA3 ?_
 refine s_ne ?_
 refine zy ?_
 refine zf ?_
 exact s_jn (fuel,(decide (v7.kind≠3))) ⟨by first | omega | (dsimp only;omega),F7⟩
 clear F0
 rintro ⟨fu,g8⟩ ⟨hl9,F1⟩
 dsimp only at hl9 F1 ⊢
 obtain _ | fu:=fu
 · rw [zaC] at F1;cases F1
 rw [zaC] at F1
 refine zm F1 ?_ ?_<;>intro C10 F2
 refine zb (za ?_)
 refine s_mv ?_
 refine s_mv ?_
 iterate 3 refine s_as ?_
 refine zf (zd (zh (zg (zn ?_))))
 cases F2
 exact zk [] [9,10] Tryz.results157
 refine zi (zd ?_)
 refine za2 (α:=Nat × (List Form)) [5,7,43,44,45,46,47,48,49,50,51,52,53,54,55,56,57,58,59,60,61,62,63,64] [9,5060] [] (fun a=>[(5,.ar 5060)]) (fun a=>[(9,.dead),(5060,.arr (a.2.map Form.row) 27 true)]) (fun a=>a.1≤fu∧zcy a.1 x1 a.2=some r) ?_ ?_
 refine zb (za ?_)
 refine s_as ?_
 refine zf (zd (zl ?_))
 refine zeI 5 9 5060 (by conv=>lhs;whnf) (by conv=>lhs;whnf) rfl ?_
 refine zak [5,7,43,44,45,46,47,48,49,50,51,52,53,54,55,56,57,58,59,60,61,62,63,64] [5060] [63,64,2062,12062] [5060] (fun a:Nat × (List Form) × Int=>a.1) (fun a:Nat × (List Form) × Int=>[(5,.ar 5060),(7,.t (.sc (.int .i64 a.2.2)))]) (fun a:Nat × (List Form) × Int=>[(5060,.arr (a.2.1.map Form.row) 27 true)]) (fun a:Nat × (List Form) × Int=>a.1≤fu∧zbu a.1 x1 a.2.1 a.2.2=some r∧0≤a.2.2) (fu,([]:List Form),0) ⟨Nat.le_refl _,F2,by simp⟩ (by rfl) (by rfl) (fun _=>rfl) (zI (by conv=>lhs;whnf) (by rfl) (zI (by conv=>lhs;whnf) (by rfl) zaX)) (zL (by conv=>lhs;whnf) (by rfl) zaK) (zbZ hC rfl) (by repeat (first | exact z6 rfl | refine zal rfl ?_ | refine zQ rfl ?_)) (by repeat (first | exact zay | exact zad rfl | refine zam rfl ?_ | refine zR rfl ?_)) ?_
 clear F2
 rintro ⟨fu,g11,g12⟩ ⟨hl13,F3,hn_g12⟩
 dsimp only at hl13 F3 hn_g12 ⊢
 obtain _ | fu:=fu
 · rw [zbu] at F3;cases F3
 rw [zbu] at F3
 refine zb (zb (za ?_))
 refine s_mv ?_
 refine s_fa zF ?_
 refine zu yA25 ?_
 obtain ⟨v14,V14,F4⟩:=zc F3
 refine zK Form.row V14 (Form.row_eq _) yE25 ?_
 refine s_fa zF ?_
 refine zu yA25 ?_
 refine zC yU25 ?_
 refine s_lt ?_
 refine zf (zd ?_)
 refine zm F4 ?_ ?_<;>intro C15 F5
 refine zM 48 (fun B16=>?_)
 refine zi (zd (zb (zl (za ?_))))
 refine s_mv ?_
 refine s_fa zF ?_
 refine zu yA25 ?_
 obtain ⟨v17,V17,F6⟩:=zc F5
 refine zK Form.row V17 (Form.row_eq _) yE25 ?_
 refine s_fa zF ?_
 refine zu yA25 ?_
 refine s_mv ?_
 obtain ⟨v18,V18,F7⟩:=zc F6
 refine zK Form.row V18 (Form.row_eq _) yE25 ?_
 refine zai yA27 yS27 ?_
 obtain ⟨v19,V19,F8⟩:=zc F7
 refine z4 [(9203,2062),(9204,12062)] [] _ _ (zd6 fu _ _ V19) ?_
 refine s_bs Form.row [v19] yP25 yR27 ?_
 obtain ⟨hk20,F9⟩:=zac F8
 refine zel Form.row (fun y=>Form.row_len y) hk20 yP25 ?_
 refine s_as ?_
 refine zf (zW (zd (za ?_)))
 refine s_mv ?_
 refine zJ (zar C15 B16 hn_g12) ?_
 refine s_as ?_
 refine zf ?_
 exact s_rn (fu,(g11++[v19]),(g12+1)) ⟨by first | omega | (dsimp only;omega),F9,by first | omega | (dsimp only;omega)⟩ [(5060,64)]
 refine zz (zq (zp (zr ?_)))
 exact s_jn (fu,g11) ⟨by first | omega | (dsimp only;omega),F5⟩
 clear F2
 rintro ⟨fu,g21⟩ ⟨hl22,F3⟩
 dsimp only at hl22 F3 ⊢
 obtain _ | fu:=fu
 · rw [zcy] at F3;cases F3
 rw [zcy] at F3
 refine za2 (α:=Nat × (List Rule)) [2,3,4,6,8,65,66,67,68,69,70,71,72,73,74,75,76,77,78,79,80,81,82,83,84,85,86,87,88,89,90,91,92,93,94,95,96,97,98,99,100,101,102,103,104,105,106,107,108,109,110,111,112] [10,5100] [] (fun a=>[(6,.ar 5100)]) (fun a=>[(10,.dead),(5100,.arr (a.2.map Rule.row) 73 true)]) (fun a=>a.1≤fu∧zdw a.1 g21 a.2=some r) ?_ ?_
 refine zb (za ?_)
 refine s_as ?_
 refine zf (zd (zl ?_))
 refine zeI 6 10 5100 (by conv=>lhs;whnf) (by conv=>lhs;whnf) rfl ?_
 refine zak [2,3,4,6,8,65,66,67,68,69,70,71,72,73,74,75,76,77,78,79,80,81,82,83,84,85,86,87,88,89,90,91,92,93,94,95,96,97,98,99,100,101,102,103,104,105,106,107,108,109,110,111,112] [5100] [111,112,2100,2109,12100,12109] [5100] (fun a:Nat × (List Rule) × Int=>a.1) (fun a:Nat × (List Rule) × Int=>[(6,.ar 5100),(8,.t (.sc (.int .i64 a.2.2)))]) (fun a:Nat × (List Rule) × Int=>[(5100,.arr (a.2.1.map Rule.row) 73 true)]) (fun a:Nat × (List Rule) × Int=>a.1≤fu∧zbt a.1 x1 g21 a.2.1 a.2.2=some r∧0≤a.2.2) (fu,([]:List Rule),2) ⟨Nat.le_refl _,F3,by simp⟩ (by rfl) (by rfl) (fun _=>rfl) (zI (by conv=>lhs;whnf) (by rfl) (zI (by conv=>lhs;whnf) (by rfl) zaX)) (zL (by conv=>lhs;whnf) (by rfl) zaK) (zbZ hC rfl) (by repeat (first | exact z6 rfl | refine zal rfl ?_ | refine zQ rfl ?_)) (by repeat (first | exact zay | exact zad rfl | refine zam rfl ?_ | refine zR rfl ?_)) ?_
 clear F3
 rintro ⟨fu,g23,g24⟩ ⟨hl25,F4,hn_g24⟩
 dsimp only at hl25 F4 hn_g24 ⊢
 obtain _ | fu:=fu
 · rw [zbt] at F4;cases F4
 rw [zbt] at F4
 refine zb (zb (za ?_))
 refine s_mv ?_
 refine s_fa zF ?_
 refine zu yA25 ?_
 refine zC yU25 ?_
 refine s_lt ?_
 refine zf (zd ?_)
 refine zm F4 ?_ ?_<;>intro C26 F5
 refine zM 67 (fun B27=>?_)
 refine zi (zd (zb (zl (zb ?_))))
 refine za2 (α:=Nat × Bool) [72,73,74,75,76,77,78,79,80,81,82,83,84,85,86,87,88] [] [] (fun a=>[(88,.t (.sc (.bool a.2)))]) (fun a=>[]) (fun a=>a.1≤fu∧zbv a.1 x1 g21 g23 g24 a.2=some r) ?_ ?_
 refine za ?_
 refine s_fa zF ?_
 refine zu yA25 ?_
 refine s_mv ?_
 obtain ⟨v28,V28,F6⟩:=zc F5
 refine zK Form.row V28 (Form.row_eq _) yE25 ?_
 refine s_fa zc1 ?_
 refine zu yA3 ?_
 refine s_ne ?_
 refine s_mv ?_
 refine zo _ 79 F6 ?_ ?_<;>intro C29 F7
 iterate 8 refine r_no rfl ?_
 refine zA ?_
 refine zf ?_
 exact s_jn (fu,true) ⟨by first | omega | (dsimp only;omega),F7⟩
 refine s_fa zF ?_
 refine zu yA25 ?_
 refine s_mv ?_
 obtain ⟨v30,V30,F8⟩:=zc F7
 refine zK Form.row V30 (Form.row_eq _) yE25 ?_
 refine s_fa zF ?_
 refine zu yA25 ?_
 refine zC yU25 ?_
 refine s_ne ?_
 refine zy ?_
 refine zf ?_
 exact s_jn (fu,(decide ((v30.kids.length:Int)≠2))) ⟨by first | omega | (dsimp only;omega),F8⟩
 clear F5
 rintro ⟨fu,g31⟩ ⟨hl32,F6⟩
 dsimp only at hl32 F6 ⊢
 obtain _ | fu:=fu
 · rw [zbv] at F6;cases F6
 rw [zbv] at F6
 refine zm F6 ?_ ?_<;>intro C33 F7
 refine zb (za ?_)
 refine s_bs Form.row ([]:List Form) yP25 yR27 ?_
 refine s_bs Rule.row ([]:List Rule) yP62 yR73 ?_
 iterate 3 refine s_as ?_
 refine zf (zd (zh (zg (zj (zg (zw (zj (zex (zn ?_)))))))))
 cases F7
 exact zk [] [89,90] Tryz.results157
 refine zi (zd ?_)
 refine zP yMix (by kernel_rfl) ?_
 refine s_mv ?_
 refine s_fa zF ?_
 refine zu yA25 ?_
 refine s_mv ?_
 obtain ⟨v34,V34,F8⟩:=zc F7
 refine zK Form.row V34 (Form.row_eq _) yE25 ?_
 refine s_fa zF ?_
 refine zu yA25 ?_
 obtain ⟨v35,V35,F9⟩:=zc F8
 refine zK Form.row V35 (Form.row_eq _) yE25 ?_
 refine zai yA27 yS27 ?_
 obtain ⟨v36,V36,F10⟩:=zc F9
 refine z4 [(9203,2100),(9204,12100)] [] _ _ (zd6 fu _ _ V36) ?_
 refine s_fa zF ?_
 refine zu yA25 ?_
 refine s_mv ?_
 obtain ⟨v37,V37,F11⟩:=zc F10
 refine zK Form.row V37 (Form.row_eq _) yE25 ?_
 refine s_fa zF ?_
 refine zu yA25 ?_
 obtain ⟨v38,V38,F12⟩:=zc F11
 refine zK Form.row V38 (Form.row_eq _) yE25 ?_
 refine zai yA27 yS27 ?_
 obtain ⟨v39,V39,F13⟩:=zc F12
 refine z4 [(9203,2109),(9204,12109)] [] _ _ (zd6 fu _ _ V39) ?_
 refine zgE yZ73 yL73 ?_
 refine s_bs Rule.row [(Rule.mk v36 v39)] yP62 yR73 ?_
 obtain ⟨hk40,F14⟩:=zac F13
 refine zel Rule.row (fun y=>Rule.row_len y) hk40 yP62 ?_
 refine s_as ?_
 refine zah (by kernel_rfl) ?_
 refine zW (zd (za ?_))
 refine s_mv ?_
 refine zJ (zar C26 B27 hn_g24) ?_
 refine s_as ?_
 refine zf ?_
 exact s_rn (fu,(g23++[(Rule.mk v36 v39)]),(g24+1)) ⟨by first | omega | (dsimp only;omega),F14,by first | omega | (dsimp only;omega)⟩ [(5100,112)]
 refine zz (zq (zp (zr ?_)))
 exact s_jn (fu,g23) ⟨by first | omega | (dsimp only;omega),F5⟩
 clear F3
 rintro ⟨fu,g41⟩ ⟨hl42,F4⟩
 dsimp only at hl42 F4 ⊢
 obtain _ | fu:=fu
 · rw [zdw] at F4;cases F4
 rw [zdw] at F4
 refine zb (zb (za ?_))
 refine s_mv ?_
 refine s_mv ?_
 obtain ⟨v43,V43,F5⟩:=zc F4
 refine zv [5100,5060] (ziJ fu _ _ _ V43) ?_
 refine zaG ?_
 refine zf (zd ?_)
 refine zm F5 ?_ ?_<;>intro C44 F6
 refine zb (za ?_)
 refine s_bs Form.row ([]:List Form) yP25 yR27 ?_
 refine s_bs Rule.row ([]:List Rule) yP62 yR73 ?_
 iterate 3 refine s_as ?_
 refine zf (zd (zh (zg (zn ?_))))
 cases F6
 exact zk [] [117,118] Tryz.results157
 refine zi (zd (zb (za ?_)))
 refine s_mv ?_
 refine s_mv ?_
 iterate 3 refine s_as ?_
 refine zf (zd (zh (zn ?_)))
 cases F6
 exact zk [] [5060,5100] Tryz.results157
def m_spec_l5Case_AC (fuel:Nat):Prop:=∀ (x1:(List Int)) (r:((List Form) × (List Rule) × Form)),zgW fuel x1=some r→AC Tryz.prog 102 [.t (.sl (x1.map rB))] noOb (.tp [.t (.sl (r.1.map Form.row)),.t (.sl (r.2.1.map Rule.row)),.ag [.t (.sc (.int .i64 r.2.2.kind)),.t (.sc (.str r.2.2.name)),.t (.sc (.int .i64 r.2.2.n)),.t (.sl (r.2.2.scopes.map rI)),.t (.sl (r.2.2.kids.map Form.row))]]) noOb
theorem m_spec_l5Case_ok (fuel:Nat):m_spec_l5Case_AC fuel:=by
 intro x1 r F0
 unfold zgW at F0
 refine AC_i [.t (.sl (r.1.map Form.row)),.t (.sl (r.2.1.map Rule.row)),.ag [.t (.sc (.int .i64 r.2.2.kind)),.t (.sc (.str r.2.2.name)),.t (.sc (.int .i64 r.2.2.n)),.t (.sl (r.2.2.scopes.map rI)),.t (.sl (r.2.2.kids.map Form.row))]] Tryz.func102 rfl Tryz.ntmps102 ?_
 intro C hC
 refine zb (za ?_)
 refine s_as ?_
 refine s_as ?_
 refine zU yZ27 ?_
 refine zf (zd (zb (za ?_)))
 refine s_mv ?_
 obtain ⟨v1,V1,F1⟩:=zc F0
 refine z4 [(10,14)] [] _ _ (m_spec_l15Open_ok fuel _ _ V1) ?_
 refine s_as ?_
 refine zf (zd (zb (za ?_)))
 obtain ⟨v2,V2,F2⟩:=zc F1
 refine zv [] (m_spec_l5Texts_ok fuel _ V2) ?_
 refine s_as ?_
 refine zf (zd (zb (za ?_)))
 refine s_mv ?_
 refine s_mv ?_
 refine zC yU140 ?_
 obtain ⟨v3,V3,F3⟩:=zc F2
 refine z4 [(9000,14)] [] _ _ (zaB fuel _ _ _ V3) ?_
 refine s_as ?_
 refine zf (zd (zb (za ?_)))
 refine s_mv ?_
 refine s_mv ?_
 obtain ⟨v4,V4,F4⟩:=zc F3
 refine zK (rL rS) V4 rfl yE140 ?_
 refine zu yA36 ?_
 obtain ⟨v5,V5,F5⟩:=zc F4
 refine zK rS V5 rfl yE36 ?_
 refine zu yA9 ?_
 obtain ⟨v6,V6,F6⟩:=zc F5
 refine zv [] (zf0 fuel _ _ V6) ?_
 refine zU yZ27 ?_
 refine zab yS27 ?_
 refine zf (zd ?_)
 refine za2 (α:=Nat × (List Int) × Int × Int × ByteArray × Int × (List Int) × (List Form)) [27,28,29,30,31,32,33,34] [8,14] [] (fun a=>[]) (fun a=>[(8,.box [.t (.sc (.int .i64 a.2.2.2.1)),.t (.sc (.str a.2.2.2.2.1)),.t (.sc (.int .i64 a.2.2.2.2.2.1)),.t (.sl (a.2.2.2.2.2.2.1.map rI)),.t (.sl (a.2.2.2.2.2.2.2.map Form.row))]),(14,.box [.t (.sl (a.2.1.map rB)),.t (.sc (.int .i64 a.2.2.1))])]) (fun a=>a.1≤fuel∧zcH a.1 v2 v3 a.2.1 a.2.2.1 a.2.2.2.1 a.2.2.2.2.1 a.2.2.2.2.2.1 a.2.2.2.2.2.2.1 a.2.2.2.2.2.2.2=some r) ?_ ?_
 refine zb (za ?_)
 refine s_mv ?_
 obtain ⟨v7,V7,F7⟩:=zc F6
 refine z4 [(9000,14)] [] _ _ (zaB fuel _ _ _ V7) ?_
 refine s_eq ?_
 refine zf (zd ?_)
 refine zm F7 ?_ ?_<;>intro C8 F8
 refine za ?_
 refine s_mv ?_
 refine s_mv ?_
 refine zG yA27 yS27 ?_
 obtain ⟨v9,V9,F9⟩:=zc F8
 refine z4 [(9000,14)] [] _ _ (zfu fuel _ _ _ V9) ?_
 obtain ⟨v10,V10,F10⟩:=zc F9
 refine z4 [(9000,14)] [] _ _ (zfu fuel _ _ _ V10) ?_
 refine zab yS27 ?_
 refine zf ?_
 exact s_jn (fuel,v10.2.b,v10.2.p,v10.1.kind,v10.1.name,v10.1.n,v10.1.scopes,v10.1.kids) ⟨by first | omega | (dsimp only;omega),F10⟩
 refine zi ?_
 exact s_jn (fuel,v7.2.b,v7.2.p,v6.kind,v6.name,v6.n,v6.scopes,v6.kids) ⟨by first | omega | (dsimp only;omega),F8⟩
 clear F6
 rintro ⟨fu,g11,g12,g13,g14,g15,g16,g17⟩ ⟨hl18,F7⟩
 dsimp only at hl18 F7 ⊢
 obtain _ | fu:=fu
 · rw [zcH] at F7;cases F7
 rw [zcH] at F7
 refine zb (za ?_)
 refine zG yA27 yS27 ?_
 obtain ⟨v19,V19,F8⟩:=zc F7
 refine zv [] (zhN fu _ _ V19) ?_
 refine s_mv ?_
 iterate 3 refine za4 ?_
 iterate 3 refine s_as ?_
 refine zf (zd ?_)
 refine za2 (α:=Nat × (List Form) × (List Rule)) [9,10,41,42,43,44,45,46,47,48,49,50,51,52,53] [] [] (fun a=>[(9,.t (.sl (a.2.1.map Form.row))),(10,.t (.sl (a.2.2.map Rule.row)))]) (fun a=>[]) (fun a=>a.1≤fu∧zdq a.1 v2 v3 g11 g12 a.2.1 a.2.2=some r) ?_ ?_
 refine zb (za ?_)
 refine s_mv ?_
 refine zaG ?_
 refine zf (zd ?_)
 refine zm F8 ?_ ?_<;>intro C20 F9
 refine za ?_
 refine s_mv ?_
 obtain ⟨v21,V21,F10⟩:=zc F9
 refine zK (rL rS) V21 rfl yE140 ?_
 refine zu yA36 ?_
 obtain ⟨v22,V22,F11⟩:=zc F10
 refine zK rS V22 rfl yE36 ?_
 refine zu yA9 ?_
 obtain ⟨v23,V23,F12⟩:=zc F11
 refine zv [] (zf0 fu _ _ V23) ?_
 obtain ⟨v24,V24,F13⟩:=zc F12
 refine zv [] (zhN fu _ _ V24) ?_
 refine s_mv ?_
 iterate 3 refine za4 ?_
 refine s_as ?_
 refine s_as ?_
 refine zf ?_
 exact s_jn (fu,v24.1,v24.2.1) ⟨by first | omega | (dsimp only;omega),F13⟩
 refine zi ?_
 exact s_jn (fu,v19.1,v19.2.1) ⟨by first | omega | (dsimp only;omega),F9⟩
 clear F8
 rintro ⟨fu,g25,g26⟩ ⟨hl27,F9⟩
 dsimp only at hl27 F9 ⊢
 obtain _ | fu:=fu
 · rw [zdq] at F9;cases F9
 rw [zdq] at F9
 refine zb (za ?_)
 refine s_mv ?_
 refine s_mv ?_
 obtain ⟨v28,V28,F10⟩:=zc F9
 refine zK (rL rS) V28 rfl yE140 ?_
 refine zu yA36 ?_
 obtain ⟨v29,V29,F11⟩:=zc F10
 refine zK rS V29 rfl yE36 ?_
 refine zu yA9 ?_
 obtain ⟨v30,V30,F12⟩:=zc F11
 refine zv [] (zf0 fu _ _ V30) ?_
 refine zU yZ27 ?_
 refine zab yS27 ?_
 refine zf (zd (zb (zb (za ?_))))
 refine s_mv ?_
 obtain ⟨v31,V31,F13⟩:=zc F12
 refine z4 [(9000,14)] [] _ _ (zaB fu _ _ _ V31) ?_
 refine zf (zd (zl (zb (za ?_))))
 refine s_eq ?_
 refine s_as ?_
 refine zf (zd ?_)
 refine zm F13 ?_ ?_<;>intro C32 F14
 refine za ?_
 iterate 3 refine s_mv ?_
 refine zC yU140 ?_
 obtain ⟨v33,V33,F15⟩:=zc F14
 refine z4 [(9000,14)] [] _ _ (zaB fu _ _ _ V33) ?_
 obtain ⟨v34,V34,F16⟩:=zc F15
 refine zK (rL rS) V34 rfl yE140 ?_
 refine zu yA36 ?_
 obtain ⟨v35,V35,F17⟩:=zc F16
 refine zK rS V35 rfl yE36 ?_
 refine zu yA9 ?_
 obtain ⟨v36,V36,F18⟩:=zc F17
 refine zv [] (zf0 fu _ _ V36) ?_
 refine zab yS27 ?_
 refine zf (zW (zd (zb ?_)))
 refine zP yMix (by kernel_rfl) ?_
 refine s_mv ?_
 refine s_mv ?_
 refine zG yA27 yS27 ?_
 refine s_as ?_
 refine s_as ?_
 refine zab yS27 ?_
 refine zah (by kernel_rfl) ?_
 refine zd (zh (zn ?_))
 cases F18
 exact zZ [] [] (by rw [Tryz.results102];exact (zaj (by conv=>lhs;whnf) (zaj (by conv=>lhs;whnf) (zas (by conv=>lhs;whnf) (by conv=>lhs;whnf) yA27 yS27 rfl zae))))
 refine zb (za ?_)
 refine s_eq ?_
 refine s_as ?_
 refine zf (zd ?_)
 refine zm F14 ?_ ?_<;>intro C37 F15
 refine za ?_
 refine s_mv ?_
 refine s_mv ?_
 refine zG yA27 yS27 ?_
 obtain ⟨v38,V38,F16⟩:=zc F15
 refine z4 [(9000,14)] [] _ _ (zfu fu _ _ _ V38) ?_
 obtain ⟨v39,V39,F17⟩:=zc F16
 refine z4 [(9000,14)] [] _ _ (zfu fu _ _ _ V39) ?_
 refine zab yS27 ?_
 refine zf (zW (zd (zb ?_)))
 refine zP yMix (by kernel_rfl) ?_
 refine s_mv ?_
 refine s_mv ?_
 refine zG yA27 yS27 ?_
 refine s_as ?_
 refine s_as ?_
 refine zab yS27 ?_
 refine zah (by kernel_rfl) ?_
 refine zd (zh (zn ?_))
 cases F17
 exact zZ [] [] (by rw [Tryz.results102];exact (zaj (by conv=>lhs;whnf) (zaj (by conv=>lhs;whnf) (zas (by conv=>lhs;whnf) (by conv=>lhs;whnf) yA27 yS27 rfl zae))))
 refine zb (za ?_)
 refine s_eq ?_
 refine s_as ?_
 refine zf (zd ?_)
 refine zm F15 ?_ ?_<;>intro C40 F16
 refine za ?_
 refine s_mv ?_
 refine zG yA27 yS27 ?_
 obtain ⟨v41,V41,F17⟩:=zc F16
 refine z4 [(9000,14)] [] _ _ (m_spec_l1Dress_ok fu _ _ _ V41) ?_
 refine zab yS27 ?_
 refine zf (zW (zd (zb ?_)))
 refine zP yMix (by kernel_rfl) ?_
 refine s_mv ?_
 refine s_mv ?_
 refine zG yA27 yS27 ?_
 refine s_as ?_
 refine s_as ?_
 refine zab yS27 ?_
 refine zah (by kernel_rfl) ?_
 refine zd (zh (zn ?_))
 cases F17
 exact zZ [] [] (by rw [Tryz.results102];exact (zaj (by conv=>lhs;whnf) (zaj (by conv=>lhs;whnf) (zas (by conv=>lhs;whnf) (by conv=>lhs;whnf) yA27 yS27 rfl zae))))
 refine zi (zW (zd (zb ?_)))
 refine zP yMix (by kernel_rfl) ?_
 refine s_mv ?_
 refine s_mv ?_
 refine zG yA27 yS27 ?_
 refine s_as ?_
 refine s_as ?_
 refine zab yS27 ?_
 refine zah (by kernel_rfl) ?_
 refine zd (zh (zn ?_))
 cases F16
 exact zZ [] [] (by rw [Tryz.results102];exact (zaj (by conv=>lhs;whnf) (zaj (by conv=>lhs;whnf) (zas (by conv=>lhs;whnf) (by conv=>lhs;whnf) yA27 yS27 rfl zae))))
def zjc (fuel:Nat):Prop:=∀ (x1:(List Int)) (r:((List Bind) × (List Rule) × (List Form) × Form)),zdx fuel x1=some r→AC Tryz.prog 43 [.t (.sl (x1.map rB))] noOb (.tp [.t (.sl (r.1.map Bind.row)),.t (.sl (r.2.1.map Rule.row)),.t (.sl (r.2.2.1.map Form.row)),.ag [.t (.sc (.int .i64 r.2.2.2.kind)),.t (.sc (.str r.2.2.2.name)),.t (.sc (.int .i64 r.2.2.2.n)),.t (.sl (r.2.2.2.scopes.map rI)),.t (.sl (r.2.2.2.kids.map Form.row))]]) noOb
theorem zjb (fuel:Nat):zjc fuel:=by
 intro x1 r F0
 unfold zdx at F0
 refine AC_i [.t (.sl (r.1.map Bind.row)),.t (.sl (r.2.1.map Rule.row)),.t (.sl (r.2.2.1.map Form.row)),.ag [.t (.sc (.int .i64 r.2.2.2.kind)),.t (.sc (.str r.2.2.2.name)),.t (.sc (.int .i64 r.2.2.2.n)),.t (.sl (r.2.2.2.scopes.map rI)),.t (.sl (r.2.2.2.kids.map Form.row))]] Tryz.func43 rfl Tryz.ntmps43 ?_
 intro C hC
 refine zb (za ?_)
 iterate 3 refine s_as ?_
 refine zU yZ27 ?_
 refine zf (zd (zb (za ?_)))
 refine s_mv ?_
 obtain ⟨v1,V1,F1⟩:=zc F0
 refine zv [] (m_spec_l5Case_ok fuel _ _ V1) ?_
 refine s_mv ?_
 iterate 3 refine za4 ?_
 refine zU yZ27 ?_
 refine s_as ?_
 refine s_as ?_
 refine zab yS27 ?_
 refine zf (zd (zb ?_))
 refine zP yMix (by kernel_rfl) ?_
 refine s_bs Bind.row ([]:List Bind) yP23 yR93 ?_
 refine s_mv ?_
 refine s_mv ?_
 refine zG yA27 yS27 ?_
 iterate 3 refine s_as ?_
 refine zab yS27 ?_
 refine zah (by kernel_rfl) ?_
 refine zd (zh (zn ?_))
 cases F1
 exact zZ [] [15] (by rw [Tryz.results43];exact (zaj (by conv=>lhs;whnf) (zaj (by conv=>lhs;whnf) (zaj (by conv=>lhs;whnf) (zas (by conv=>lhs;whnf) (by conv=>lhs;whnf) yA27 yS27 rfl zae)))))
def m_impl_hitVars_AC (fuel:Nat):Prop:=∀ (x1:(List Hit)) (r:((List Form) × (List Int))),zgn fuel x1=some r→AC Tryz.prog 115 [.t (.sl (x1.map Hit.row))] noOb (.tp [.t (.sl (r.1.map Form.row)),.t (.sl (r.2.map rI))]) noOb
theorem m_impl_hitVars_ok (fuel:Nat):m_impl_hitVars_AC fuel:=by
 intro x1 r F0
 unfold zgn at F0
 refine AC_i [.t (.sl (r.1.map Form.row)),.t (.sl (r.2.map rI))] Tryz.func115 rfl Tryz.ntmps115 ?_
 intro C hC
 refine zb (za ?_)
 refine s_as ?_
 refine s_as ?_
 refine zf (zd (zb (za ?_)))
 refine s_bs Form.row ([]:List Form) yP25 yR27 ?_
 refine s_bs rI ([]:List Int) yP24 yR3 ?_
 refine s_as ?_
 refine s_as ?_
 refine zf (zd (zb (zb (za ?_))))
 refine s_mv ?_
 refine zC yU30 ?_
 refine s_mv ?_
 refine zf (zd (zl ?_))
 refine zeI 4 8 5020 (by conv=>lhs;whnf) (by conv=>lhs;whnf) rfl ?_
 refine zeI 5 9 5021 (by conv=>lhs;whnf) (by conv=>lhs;whnf) rfl ?_
 refine zak [4,5,7,12,13,14,15,16,17,18,19,20,21,22,23,24,25,26] [5020,5021] [7,19,20,24,25] [5020,5021] (fun a:Nat × (List Form) × (List Int) × Int=>a.1) (fun a:Nat × (List Form) × (List Int) × Int=>[(4,.ar 5020),(5,.ar 5021),(12,.t (.sc (.int .i64 a.2.2.2)))]) (fun a:Nat × (List Form) × (List Int) × Int=>[(5020,.arr (a.2.1.map Form.row) 27 true),(5021,.arr (a.2.2.1.map rI) 3 true)]) (fun a:Nat × (List Form) × (List Int) × Int=>a.1≤fuel∧zcn a.1 x1 a.2.1 a.2.2.1 a.2.2.2=some r∧0≤a.2.2.2) (fuel,([]:List Form),([]:List Int),0) ⟨Nat.le_refl _,F0,by simp⟩ (by rfl) (by rfl) (fun _=>rfl) (zI (by conv=>lhs;whnf) (by rfl) (zI (by conv=>lhs;whnf) (by rfl) (zI (by conv=>lhs;whnf) (by rfl) zaX))) (zL (by conv=>lhs;whnf) (by rfl) (zL (by conv=>lhs;whnf) (by rfl) zaK)) (zbZ hC rfl) (by repeat (first | exact z6 rfl | refine zal rfl ?_ | refine zQ rfl ?_)) (by repeat (first | exact zay | exact zad rfl | refine zam rfl ?_ | refine zR rfl ?_)) ?_
 clear F0
 rintro ⟨fu,g1,g2,g3⟩ ⟨hl4,F1,hn_g3⟩
 dsimp only at hl4 F1 hn_g3 ⊢
 obtain _ | fu:=fu
 · rw [zcn] at F1;cases F1
 rw [zcn] at F1
 refine zb (za ?_)
 refine s_lt ?_
 refine zf (zd (zb ?_))
 refine zm F1 ?_ ?_<;>intro C5 F2
 refine zM 0 (fun B6=>?_)
 refine zi (zd (zb (zl (zb (za ?_)))))
 obtain ⟨v7,V7,F3⟩:=zc F2
 refine zK Hit.row V7 (Hit.row_eq _) yE30 ?_
 refine zai yA40 yS40 ?_
 refine zU yZ40 ?_
 refine zab yS40 ?_
 refine zf (zd ?_)
 refine zP yMix (by kernel_rfl) ?_
 refine s_mv ?_
 refine s_fa ziF ?_
 refine zai yA27 yS27 ?_
 refine s_bs Form.row [v7.name] yP25 yR27 ?_
 obtain ⟨hk8,F4⟩:=zac F3
 refine zel Form.row (fun y=>Form.row_len y) hk8 yP25 ?_
 refine s_mv ?_
 refine s_fa zhY ?_
 refine zu yA3 ?_
 refine s_bs rI [v7.depth] yP24 yR3 ?_
 obtain ⟨hk9,F5⟩:=zac F4
 refine zel rI (fun _=>rfl) hk9 yP24 ?_
 refine s_as ?_
 refine s_as ?_
 refine zah (by kernel_rfl) ?_
 refine zW (zd (za ?_))
 refine zJ (zar C5 B6 hn_g3) ?_
 refine s_mv ?_
 refine zf ?_
 exact s_rn (fu,(g1++[v7.name]),(g2++[v7.depth]),(g3+1)) ⟨by first | omega | (dsimp only;omega),F5,by first | omega | (dsimp only;omega)⟩ [(5020,20),(5021,25)]
 refine zz (zq (zp (zr (zd (zb (za ?_))))))
 refine s_mv ?_
 refine s_mv ?_
 refine s_as ?_
 refine s_as ?_
 refine zf (zd (zh (zn ?_)))
 cases F2
 exact zk [] [5020,5021] Tryz.results115
def zje (fuel:Nat):Prop:=∀ (x1:Form) (x2:(List Hit)) (r:Bool),zdy fuel x1 x2=some r→AC Tryz.prog 54 [.ag [.t (.sc (.int .i64 x1.kind)),.t (.sc (.str x1.name)),.t (.sc (.int .i64 x1.n)),.t (.sl (x1.scopes.map rI)),.t (.sl (x1.kids.map Form.row))],.t (.sl (x2.map Hit.row))] noOb (.t (.sc (.bool r))) noOb
theorem zjd (fuel:Nat):zje fuel:=by
 intro x1 x2 r F0
 unfold zdy at F0
 refine AC_i [.t (.sc (.bool r))] Tryz.func54 rfl Tryz.ntmps54 ?_
 intro C hC
 refine zb (za ?_)
 refine zaN ?_
 refine s_as ?_
 refine zf (zd (zb (za ?_)))
 refine s_mv ?_
 obtain ⟨v1,V1,F1⟩:=zc F0
 refine zv [] (m_impl_hitVars_ok fuel _ _ V1) ?_
 refine s_mv ?_
 refine za4 ?_
 refine za4 ?_
 refine s_as ?_
 refine s_as ?_
 refine zf (zd (zb (za ?_)))
 refine s_mv ?_
 obtain ⟨v2,V2,F2⟩:=zc F1
 refine zv [] (m_impl_HitsValid_ok fuel _ _ V2) ?_
 refine s_mv ?_
 refine zo _ 14 F2 ?_ ?_<;>intro C3 F3
 refine zG yA27 yS27 ?_
 refine s_mv ?_
 refine s_mv ?_
 obtain ⟨v4,V4,F4⟩:=zc F3
 refine zv [] (zhO fuel _ _ _ _ V4) ?_
 refine zA ?_
 refine s_as ?_
 refine zf (zd (zh (zn ?_)))
 cases F4
 exact zk [] [] Tryz.results54
 iterate 4 refine r_no rfl ?_
 refine zy ?_
 refine s_as ?_
 refine zf (zd (zh (zn ?_)))
 cases F3
 exact zk [] [] Tryz.results54
def m_impl_fill_2_AC (fuel:Nat):Prop:=∀ (x1:Form) (o1:Bool) (o2:Hit) (r:Bool),zhU fuel x1 o1 o2=some r→AC Tryz.prog 166 [.ag [.t (.sc (.int .i64 x1.kind)),.t (.sc (.str x1.name)),.t (.sc (.int .i64 x1.n)),.t (.sl (x1.scopes.map rI)),.t (.sl (x1.kids.map Form.row))],.rf 9000 0,.rf 9001 0] (objs [(9000,.box [.t (.sc (.bool o1))]),(9001,.box [.t (.sc (.int .i64 o2.name.kind)),.t (.sc (.str o2.name.name)),.t (.sc (.int .i64 o2.name.n)),.t (.sl (o2.name.scopes.map rI)),.t (.sl (o2.name.kids.map Form.row)),.t (.sc (.int .i64 o2.depth)),.t (.sc (.int .i64 o2.one.kind)),.t (.sc (.str o2.one.name)),.t (.sc (.int .i64 o2.one.n)),.t (.sl (o2.one.scopes.map rI)),.t (.sl (o2.one.kids.map Form.row)),.t (.sl (o2.many.map Hit.row))])]) (.tp []) (objs [(9000,.box [.t (.sc (.bool r))]),(9001,.box [.t (.sc (.int .i64 o2.name.kind)),.t (.sc (.str o2.name.name)),.t (.sc (.int .i64 o2.name.n)),.t (.sl (o2.name.scopes.map rI)),.t (.sl (o2.name.kids.map Form.row)),.t (.sc (.int .i64 o2.depth)),.t (.sc (.int .i64 o2.one.kind)),.t (.sc (.str o2.one.name)),.t (.sc (.int .i64 o2.one.n)),.t (.sl (o2.one.scopes.map rI)),.t (.sl (o2.one.kids.map Form.row)),.t (.sl (o2.many.map Hit.row))])])
theorem m_impl_fill_2_ok (fuel:Nat):m_impl_fill_2_AC fuel:=by
 intro x1 o1 o2 r F0
 unfold zhU at F0
 refine AC_i [] Tryz.func166 rfl Tryz.ntmps166 ?_
 intro C hC
 refine zb (za ?_)
 refine zaN ?_
 refine zf (zd (za ?_))
 refine zu yA4 ?_
 refine s_mv ?_
 refine zo _ 5 F0 ?_ ?_<;>intro C1 F1
 iterate 4 refine r_no rfl ?_
 refine zA ?_
 refine zab yS4 ?_
 refine zf (zhC ?_)
 cases F1
 exact zk _ [] Tryz.results166
 refine zG yA27 yS27 ?_
 refine s_fa ziF ?_
 refine zai yA27 yS27 ?_
 obtain ⟨v2,V2,F2⟩:=zc F1
 refine zv [] (zbi fuel _ _ _ V2) ?_
 refine zy ?_
 refine zab yS4 ?_
 refine zf (zhC ?_)
 cases F2
 exact zk _ [] Tryz.results166
def zc5 (fuel:Nat):Prop:=∀ (x1:Form) (o1:Bool) (o2:Hit) (r:Bool),za5 fuel x1 o1 o2=some r→AC Tryz.prog 78 [.ag [.t (.sc (.int .i64 x1.kind)),.t (.sc (.str x1.name)),.t (.sc (.int .i64 x1.n)),.t (.sl (x1.scopes.map rI)),.t (.sl (x1.kids.map Form.row))],.fn 166 [.rf 9000 0,.rf 9001 0]] (objs [(9000,.box [.t (.sc (.bool o1))]),(9001,.box [.t (.sc (.int .i64 o2.name.kind)),.t (.sc (.str o2.name.name)),.t (.sc (.int .i64 o2.name.n)),.t (.sl (o2.name.scopes.map rI)),.t (.sl (o2.name.kids.map Form.row)),.t (.sc (.int .i64 o2.depth)),.t (.sc (.int .i64 o2.one.kind)),.t (.sc (.str o2.one.name)),.t (.sc (.int .i64 o2.one.n)),.t (.sl (o2.one.scopes.map rI)),.t (.sl (o2.one.kids.map Form.row)),.t (.sl (o2.many.map Hit.row))])]) (.tp []) (objs [(9000,.box [.t (.sc (.bool r))]),(9001,.box [.t (.sc (.int .i64 o2.name.kind)),.t (.sc (.str o2.name.name)),.t (.sc (.int .i64 o2.name.n)),.t (.sl (o2.name.scopes.map rI)),.t (.sl (o2.name.kids.map Form.row)),.t (.sc (.int .i64 o2.depth)),.t (.sc (.int .i64 o2.one.kind)),.t (.sc (.str o2.one.name)),.t (.sc (.int .i64 o2.one.n)),.t (.sl (o2.one.scopes.map rI)),.t (.sl (o2.one.kids.map Form.row)),.t (.sl (o2.many.map Hit.row))])])
theorem ziB (fu:Nat) (ih_m_impl_eachForm_fill_2:∀ k,k≤fu→zc5 k):zc5 (fu+1):=by
 intro x1 o1 o2 r F0
 rw [za5] at F0
 refine AC_i [] Tryz.func78 rfl Tryz.ntmps78 ?_
 intro C hC
 refine zb (za ?_)
 refine zaN ?_
 refine zf (zd (zb (za ?_)))
 refine s_mv ?_
 refine zG yA27 yS27 ?_
 obtain ⟨v1,V1,F1⟩:=zc F0
 refine z4 [(9000,9000),(9001,9001)] [] _ _ (m_impl_fill_2_ok fu _ _ _ _ V1) ?_
 refine zf (zd (zb (za ?_)))
 refine s_fa zF ?_
 refine zu yA25 ?_
 refine zC yU25 ?_
 refine s_mv ?_
 refine zf (zd (zl ?_))
 refine zaP (β:=Int × Bool) [5,12,13,14,15,16,17,18,19] [9000] [5] (fun a=>[(12,.t (.sc (.int .i64 a.2.1)))]) (fun a=>[(9000,.box [.t (.sc (.bool a.2.2))])]) (fun a=>a.1≤fu∧zaE a.1 x1 o2 a.2.1 a.2.2=some r∧0≤a.2.1) (fu,0,v1) ⟨Nat.le_refl _,F1,by simp⟩ ?_
 clear F1
 rintro ⟨fu,g2,g3⟩ ⟨hl4,F2,hn_g2⟩
 dsimp only at hl4 F2 hn_g2 ⊢
 obtain _ | fu:=fu
 · rw [zaE] at F2;cases F2
 rw [zaE] at F2
 refine zb (za ?_)
 refine s_lt ?_
 refine zf (zd (zb ?_))
 refine zm F2 ?_ ?_<;>intro C5 F3
 refine zM 10 (fun B6=>?_)
 refine zi (zd (zb (zl (zb (za ?_)))))
 obtain ⟨v7,V7,F4⟩:=zc F3
 refine zK Form.row V7 (Form.row_eq _) yE25 ?_
 refine zai yA27 yS27 ?_
 refine zU yZ27 ?_
 refine zab yS27 ?_
 refine zf (zd (za ?_))
 refine zG yA27 yS27 ?_
 refine s_mv ?_
 obtain ⟨v8,V8,F5⟩:=zc F4
 refine z4 [(9000,9000),(9001,9001)] [] _ _ (ih_m_impl_eachForm_fill_2 fu (by omega) _ _ _ _ V8) ?_
 refine zf (zW (zd (za ?_)))
 refine zJ (zar C5 B6 hn_g2) ?_
 refine s_mv ?_
 refine zf ?_
 exact s_rn (fu,(g2+1),v8) ⟨by first | omega | (dsimp only;omega),F5,by first | omega | (dsimp only;omega)⟩
 refine zz (zq (zp (zr (zhC ?_))))
 cases F3
 exact zk _ [] Tryz.results78
theorem zij (fuel:Nat):zc5 fuel:=by
 induction fuel using Nat.strongRecOn with
 | _ N ih =>
   cases N with
   | zero=>exact (by intro x1 o1 o2 r h;rw [za5] at h;cases h)
   | succ fu=>exact ziB fu (fun k hk=>(ih k (by omega)))
theorem ziC (fuel:Nat):zc5 fuel:=(zij fuel)
def m_slices_Clone_Hit_AC (fuel:Nat):Prop:=∀ (x1:(List Hit)) (r:(List Hit)),zfz fuel x1=some r→AC Tryz.prog 167 [.t (.sl (x1.map Hit.row))] (objs []) (.ar 9200) (objs [(9200,.arr (r.map Hit.row) 40 true)])
theorem m_slices_Clone_Hit_ok (fuel:Nat):m_slices_Clone_Hit_AC fuel:=by
 intro x1 r F0
 unfold zfz at F0
 refine AC_i [.ar 9200] Tryz.func167 rfl Tryz.ntmps167 ?_
 intro C hC
 refine awp_nil 0 (fun hz=>?_) ?_
 replace hz:=List.map_eq_nil_iff.mp hz;subst hz;obtain ⟨_,F1⟩:=zac F0
 refine zb (za ?_)
 refine s_as ?_
 refine zf (zd (zb (zb (za ?_))))
 refine s_mv ?_
 refine s_nil yU30 ?_
 refine zf (zd (zT rfl ?_))
 refine zhE 0 ?_
 refine zhE 3 ?_
 refine zb (za ?_)
 refine s_as ?_
 refine zf (zd ?_)
 refine awp_own 2 9200 40 yI40.choose_spec ?_
 refine zh (zg (zn ?_))
 cases F1
 exact zk _ [] Tryz.results167
 refine zb (za ?_)
 refine s_as ?_
 refine zf (zd (zb (zb (za ?_))))
 refine s_mv ?_
 refine s_nil yU30 ?_
 refine zf (zd (zaZ rfl ?_))
 refine zhE 0 ?_
 refine zhE 3 ?_
 refine zi (zd (zb (za ?_)))
 refine s_bs Hit.row ([]:List Hit) yP30 yR40 ?_
 refine s_mv ?_
 obtain ⟨hk1,F1⟩:=zac F0
 refine zel Hit.row (fun y=>Hit.row_len y) hk1 yP30 ?_
 refine s_as ?_
 refine zf (zd ?_)
 refine zeI 2 7 9200 (by conv=>lhs;whnf) (by conv=>lhs;whnf) rfl ?_
 refine zh (zn ?_)
 cases F1
 exact zk _ [] Tryz.results167
def zgp (fuel:Nat):Prop:=∀ (x1:Form) (x2:(List Hit)) (r:(Form × Bool)),zes fuel x1 x2=some r→AC Tryz.prog 109 [.ag [.t (.sc (.int .i64 x1.kind)),.t (.sc (.str x1.name)),.t (.sc (.int .i64 x1.n)),.t (.sl (x1.scopes.map rI)),.t (.sl (x1.kids.map Form.row))],.t (.sl (x2.map Hit.row))] noOb (.tp [.ag [.t (.sc (.int .i64 r.1.kind)),.t (.sc (.str r.1.name)),.t (.sc (.int .i64 r.1.n)),.t (.sl (r.1.scopes.map rI)),.t (.sl (r.1.kids.map Form.row))],.t (.sc (.bool r.2))]) noOb
def zgC (fuel:Nat):Prop:=∀ (x1:Form) (x2:(List Hit)) (o1:Int) (o2:Form) (r:(Bool × Int × Form)),zeh fuel x1 x2 o1 o2=some r→AC Tryz.prog 165 [.ag [.t (.sc (.int .i64 x1.kind)),.t (.sc (.str x1.name)),.t (.sc (.int .i64 x1.n)),.t (.sl (x1.scopes.map rI)),.t (.sl (x1.kids.map Form.row))],.t (.sl (x2.map Hit.row)),.rf 9000 0,.rf 9001 0] (objs [(9000,.box [.t (.sc (.int .i64 o1))]),(9001,.box [.t (.sc (.int .i64 o2.kind)),.t (.sc (.str o2.name)),.t (.sc (.int .i64 o2.n)),.t (.sl (o2.scopes.map rI)),.ar 9444]),(9444,.arr (o2.kids.map Form.row) 27 true)]) (.t (.sc (.bool r.1))) (objs [(9000,.box [.t (.sc (.int .i64 r.2.1))]),(9001,.box [.t (.sc (.int .i64 r.2.2.kind)),.t (.sc (.str r.2.2.name)),.t (.sc (.int .i64 r.2.2.n)),.t (.sl (r.2.2.scopes.map rI)),.ar 10444]),(9444,.dead),(10444,.arr (r.2.2.kids.map Form.row) 27 true)])
theorem m_impl_fill_st (fu:Nat) (ih_m_impl_fill:∀ k,k≤fu→zgp k) (ih_m_impl_fill_1:∀ k,k≤fu→zgC k):zgp (fu+1):=by
 intro x1 x2 r F0
 rw [zes] at F0
 refine AC_i [.ag [.t (.sc (.int .i64 r.1.kind)),.t (.sc (.str r.1.name)),.t (.sc (.int .i64 r.1.n)),.t (.sl (r.1.scopes.map rI)),.t (.sl (r.1.kids.map Form.row))],.t (.sc (.bool r.2))] Tryz.func109 rfl Tryz.ntmps109 ?_
 intro C hC
 refine zb (za ?_)
 refine zaN ?_
 refine zU yZ27 ?_
 refine s_as ?_
 refine zf (zd (zb (zb (za ?_))))
 refine s_fa zc1 ?_
 refine zu yA3 ?_
 refine s_eq ?_
 refine zf (zd ?_)
 refine zm F0 ?_ ?_<;>intro C1 F1
 refine zb (zb (za ?_))
 refine s_mv ?_
 refine zG yA27 yS27 ?_
 obtain ⟨v2,V2,F2⟩:=zc F1
 refine zv [] (m_impl_hitAt_ok fu _ _ _ V2) ?_
 refine s_as ?_
 refine zf (zd (zb (za ?_)))
 refine s_mv ?_
 refine s_ge ?_
 refine zf (zd ?_)
 refine zm F2 ?_ ?_<;>intro C3 F3
 refine zb (za ?_)
 refine s_mv ?_
 refine s_mv ?_
 obtain ⟨v4,V4,F4⟩:=zc F3
 refine zK Hit.row V4 (Hit.row_eq _) yE30 ?_
 refine s_fa yF40_2 ?_
 refine zai yA27 yS27 ?_
 obtain ⟨v5,V5,F5⟩:=zc F4
 refine zv [] (zdl fu _ _ V5) ?_
 refine zab yS27 ?_
 refine s_as ?_
 refine zf (zd (zh (zg (zg (zn ?_)))))
 cases F5
 exact zZ [] [] (by rw [Tryz.results109];exact (zas (by conv=>lhs;whnf) (by conv=>lhs;whnf) yA27 yS27 rfl (zaj (by conv=>lhs;whnf) zae)))
 refine zi (zd (zb (za ?_)))
 refine zG yA27 yS27 ?_
 obtain ⟨v6,V6,F4⟩:=zc F3
 refine zv [] (zdl fu _ _ V6) ?_
 refine zab yS27 ?_
 refine s_as ?_
 refine zf (zd (zh (zg (zn ?_))))
 cases F4
 exact zZ [] [] (by rw [Tryz.results109];exact (zas (by conv=>lhs;whnf) (by conv=>lhs;whnf) yA27 yS27 rfl (zaj (by conv=>lhs;whnf) zae)))
 refine zi (zd (zb (za ?_)))
 refine s_fa zc1 ?_
 refine zu yA3 ?_
 refine s_fa zhu ?_
 refine zu yA3 ?_
 refine zgE yZ27 yL27 ?_
 refine zU yZ27 ?_
 refine zU yZ3 ?_
 refine zab yS27 ?_
 refine zab yS3 ?_
 refine zf (zd ?_)
 refine awp_ownB 7 8144 27 [.t (.sc (.int .i64 x1.kind)),.t (.sc (.str (⟨#[]⟩:ByteArray))),.t (.sc (.int .i64 x1.n)),.nl,.ar 8144] yI27.choose_spec ?_
 refine zb (za ?_)
 refine s_fn ?_
 refine s_as ?_
 refine zf (zd (zb (zb (za ?_))))
 refine s_fa zF ?_
 refine zu yA25 ?_
 refine zC yU25 ?_
 refine s_mv ?_
 refine zf (zd (zl ?_))
 refine zeV 7 8144 5020 [.t (.sc (.int .i64 x1.kind)),.t (.sc (.str (⟨#[]⟩:ByteArray))),.t (.sc (.int .i64 x1.n)),.nl,.ar 5020] ?_
 refine awp_nlB 7 3 [.t (.sc (.int .i64 x1.kind)),.t (.sc (.str (⟨#[]⟩:ByteArray))),.t (.sc (.int .i64 x1.n)),.t (.sl (([]:List Int).map rI)),.ar 5020] (by conv=>lhs;whnf) rfl rfl ?_
 refine zak [5,10,11,12,13,14,15,16,17,18,20,46,47,48,49,50,51,52,53,54,55,56,57,58,59,60,61,62,63,64,65,66,67,68,69,70,71,72,73,74,75,76,77,78,79,80,81,82,83,84,85,86,87,88,89,90,91,92,93,94,95,96,97,98,99,100,101,102,103,104,105,106,107,108,109,110,111,112,113,114,115,116,117,118,119,120,121,122,123,124,125,126,127,128,129,130,131,132,133,134,135,136,137,138,139,140,141,142] [7,8,5020] [11,75,5080,5140,32072] [5020] (fun a:Nat × Int × Int × ByteArray × Int × (List Int) × (List Form) × Int=>a.1) (fun a:Nat × Int × Int × ByteArray × Int × (List Int) × (List Form) × Int=>[(46,.t (.sc (.int .i64 a.2.1)))]) (fun a:Nat × Int × Int × ByteArray × Int × (List Int) × (List Form) × Int=>[(7,.box [.t (.sc (.int .i64 a.2.2.1)),.t (.sc (.str a.2.2.2.1)),.t (.sc (.int .i64 a.2.2.2.2.1)),.t (.sl (a.2.2.2.2.2.1.map rI)),.ar 5020]),(8,.box [.t (.sc (.int .i64 a.2.2.2.2.2.2.2))]),(5020,.arr (a.2.2.2.2.2.2.1.map Form.row) 27 true)]) (fun a:Nat × Int × Int × ByteArray × Int × (List Int) × (List Form) × Int=>a.1≤fu∧zb7 a.1 x1 x2 a.2.1 a.2.2.1 a.2.2.2.1 a.2.2.2.2.1 a.2.2.2.2.2.1 a.2.2.2.2.2.2.1 a.2.2.2.2.2.2.2=some r) (fu,0,x1.kind,(⟨#[]⟩:ByteArray),x1.n,([]:List Int),([]:List Form),0) ⟨Nat.le_refl _,F1⟩ (by rfl) (by rfl) (fun _=>rfl) (zI (by conv=>lhs;whnf) (by rfl) zaX) (zL (by conv=>lhs;whnf) (by rfl) (zL (by conv=>lhs;whnf) (by rfl) (zL (by conv=>lhs;whnf) (by rfl) zaK))) (zbZ hC rfl) (by repeat (first | exact z6 rfl | refine zal rfl ?_ | refine zQ rfl ?_)) (by repeat (first | exact zay | exact zad rfl | refine zam rfl ?_ | refine zR rfl ?_)) ?_
 clear F1
 rintro ⟨fu,g7,g8,g9,g10,g11,g12,g13⟩ ⟨hl14,F2⟩
 dsimp only at hl14 F2 ⊢
 obtain _ | fu:=fu
 · rw [zb7] at F2;cases F2
 rw [zb7] at F2
 refine zb (za ?_)
 refine s_lt ?_
 refine zf (zd (zb ?_))
 refine zm F2 ?_ ?_<;>intro C15 F3
 refine zM 44 (fun B16=>?_)
 refine zi (zd (zb (zl (zb (za ?_)))))
 refine s_mv ?_
 obtain ⟨v17,V17,F4⟩:=zc F3
 refine zK Form.row V17 (Form.row_eq _) yE25 ?_
 refine zai yA27 yS27 ?_
 refine zU yZ27 ?_
 refine s_as ?_
 refine zab yS27 ?_
 refine zf (zd (zb (zb (za ?_))))
 refine zG yA27 yS27 ?_
 obtain ⟨v18,V18,F5⟩:=zc F4
 refine zv [] (zbM fu _ _ _ V18) ?_
 refine zf (zd ?_)
 refine zm F5 ?_ ?_<;>intro C19 F6
 refine zz (zq (zr (zd (za ?_))))
 refine zJ (zar C15 B16 (zdF V17).1) ?_
 refine s_mv ?_
 refine zf ?_
 exact s_rn (fu,(g7+1),g8,g9,g10,g11,g12,g13) ⟨by first | omega | (dsimp only;omega),F6⟩
 refine zi (zd (zb ?_))
 refine za2 (α:=Nat × Bool) [53,54,55,56,57,58,59,60,61,62,63,64,65,66,67,68] [] [] (fun a=>[(68,.t (.sc (.bool a.2)))]) (fun a=>[]) (fun a=>a.1≤fu∧zb8 a.1 x1 x2 g7 g8 g9 g10 g11 g12 g13 v17 a.2=some r) ?_ ?_
 refine za ?_
 refine s_mv ?_
 refine zJ (zar C15 B16 (zdF V17).1) ?_
 refine s_fa zF ?_
 refine zu yA25 ?_
 refine zC yU25 ?_
 refine s_eq ?_
 refine s_mv ?_
 refine zo _ 59 F6 ?_ ?_<;>intro C20 F7
 iterate 8 refine r_no rfl ?_
 refine zA ?_
 refine zf ?_
 exact s_jn (fu,true) ⟨by first | omega | (dsimp only;omega),F7⟩
 refine s_fa zF ?_
 refine zu yA25 ?_
 refine s_mv ?_
 refine zJ (zar C15 B16 (zdF V17).1) ?_
 obtain ⟨v21,V21,F8⟩:=zc F7
 refine zK Form.row V21 (Form.row_eq _) yE25 ?_
 refine zai yA27 yS27 ?_
 obtain ⟨v22,V22,F9⟩:=zc F8
 refine zv [] (zbM fu _ _ _ V22) ?_
 refine zaG ?_
 refine zy ?_
 refine zf ?_
 exact s_jn (fu,(!v22)) ⟨by first | omega | (dsimp only;omega),F9⟩
 clear F6
 rintro ⟨fu,g23⟩ ⟨hl24,F7⟩
 dsimp only at hl24 F7 ⊢
 obtain _ | fu:=fu
 · rw [zb8] at F7;cases F7
 rw [zb8] at F7
 refine zm F7 ?_ ?_<;>intro C25 F8
 refine zb (zb (za ?_))
 refine s_mv ?_
 refine zG yA27 yS27 ?_
 refine s_mv ?_
 obtain ⟨v26,V26,F9⟩:=zc F8
 refine z4 [(9000,8),(9001,7),(9444,5020),(10444,32072)] [] _ _ (ih_m_impl_fill_1 fu (by omega) _ _ _ _ _ V26) ?_
 refine zaG ?_
 refine zf (zd ?_)
 refine zm F9 ?_ ?_<;>intro C27 F10
 refine zb (za ?_)
 refine zgE yZ27 yL27 ?_
 refine zab yS27 ?_
 refine s_as ?_
 refine zf (zd (zh (zg (zg (zj (zg (zw (zj (zg (zn ?_))))))))))
 cases F10
 exact zZ [] [] (by rw [Tryz.results109];exact (zas (by conv=>lhs;whnf) (by conv=>lhs;whnf) yA27 yS27 rfl (zaj (by conv=>lhs;whnf) zae)))
 refine zi (zd (zz (zq (zr (zd (za ?_))))))
 refine zJ (zar C15 B16 (zdF V17).1) ?_
 refine s_mv ?_
 refine zf ?_
 exact s_rn (fu,(g7+1),v26.2.2.kind,v26.2.2.name,v26.2.2.n,v26.2.2.scopes,v26.2.2.kids,v26.2.1) ⟨by first | omega | (dsimp only;omega),F10⟩ [(5020,32072)]
 refine zi (zd (zb (za ?_)))
 refine s_bs rI ([]:List Int) yP24 yR3 ?_
 refine s_as ?_
 refine s_as ?_
 refine zf (zd ?_)
 refine za2 (α:=Nat × Int × (List Int)) [5,12,13,14,15,16,76,77,78,79,80,81,82,83,84,85,86,87,88,89,90,91,92,93,94,95,96,97,98,99,100,101,102,103,104,105,106,107,108,109,110] [75,5080] [] (fun a=>[(12,.ar 5080),(13,.t (.sc (.int .i64 a.2.1)))]) (fun a=>[(75,.dead),(5080,.arr (a.2.2.map rI) 3 true)]) (fun a=>a.1≤fu∧zfr a.1 x1 x2 g7 g8 g9 g10 g11 g12 g13 v17 a.2.1 a.2.2=some r) ?_ ?_
 refine zb (za ?_)
 refine s_mv ?_
 refine zC yU30 ?_
 refine s_mv ?_
 refine zf (zd (zl ?_))
 refine zeI 12 75 5080 (by conv=>lhs;whnf) (by conv=>lhs;whnf) rfl ?_
 refine zak [5,12,13,14,15,16,78,79,80,81,82,83,84,85,86,87,88,89,90,91,92,93,94,95,96,97,98,99,100,101,102,103,104,105,106,107,108,109,110] [5080] [15,16,95,96] [5080] (fun a:Nat × Int × (List Int) × Int=>a.1) (fun a:Nat × Int × (List Int) × Int=>[(12,.ar 5080),(13,.t (.sc (.int .i64 a.2.2.2))),(78,.t (.sc (.int .i64 a.2.1)))]) (fun a:Nat × Int × (List Int) × Int=>[(5080,.arr (a.2.2.1.map rI) 3 true)]) (fun a:Nat × Int × (List Int) × Int=>a.1≤fu∧zcq a.1 x1 x2 g7 g8 g9 g10 g11 g12 g13 v17 a.2.1 a.2.2.1 a.2.2.2=some r∧0≤a.2.1) (fu,0,([]:List Int),(-1)) ⟨Nat.le_refl _,F8,by simp⟩ (by rfl) (by rfl) (fun _=>rfl) (zI (by conv=>lhs;whnf) (by rfl) (zI (by conv=>lhs;whnf) (by rfl) (zI (by conv=>lhs;whnf) (by rfl) zaX))) (zL (by conv=>lhs;whnf) (by rfl) zaK) (zbZ hC rfl) (by repeat (first | exact z6 rfl | refine zal rfl ?_ | refine zQ rfl ?_)) (by repeat (first | exact zay | exact zad rfl | refine zam rfl ?_ | refine zR rfl ?_)) ?_
 clear F8
 rintro ⟨fu,g28,g29,g30⟩ ⟨hl31,F9,hn_g28⟩
 dsimp only at hl31 F9 hn_g28 ⊢
 obtain _ | fu:=fu
 · rw [zcq] at F9;cases F9
 rw [zcq] at F9
 refine zb (za ?_)
 refine s_lt ?_
 refine zf (zd (zb ?_))
 refine zm F9 ?_ ?_<;>intro C32 F10
 refine zM 1 (fun B33=>?_)
 refine zi (zd (zb (zl (zb (za ?_)))))
 refine s_mv ?_
 obtain ⟨v34,V34,F11⟩:=zc F10
 refine zK Hit.row V34 (Hit.row_eq _) yE30 ?_
 refine zai yA40 yS40 ?_
 refine zU yZ40 ?_
 refine s_as ?_
 refine zab yS40 ?_
 refine zf (zd (zb (za ?_)))
 refine zU yZ4 ?_
 refine zab yS4 ?_
 refine zf (zd (zb (za ?_)))
 refine zG yA27 yS27 ?_
 refine s_fn ?_
 obtain ⟨v35,V35,F12⟩:=zc F11
 refine z4 [(9000,16),(9001,15)] [] _ _ (ziC fu _ _ _ _ V35) ?_
 refine zf (zd (zb ?_))
 refine za2 (α:=Nat × Bool) [86,87,88,89,90,91,92] [] [] (fun a=>[(92,.t (.sc (.bool a.2)))]) (fun a=>[]) (fun a=>a.1≤fu∧zdO a.1 x1 x2 g7 g8 g9 g10 g11 g12 g13 v17 g28 g29 g30 v34 a.2=some r) ?_ ?_
 refine za ?_
 refine zu yA4 ?_
 refine zaG ?_
 refine s_mv ?_
 refine zo _ 88 F12 ?_ ?_<;>intro C36 F13
 iterate 3 refine r_no rfl ?_
 refine zA ?_
 refine zf ?_
 exact s_jn (fu,true) ⟨by first | omega | (dsimp only;omega),F13⟩
 refine s_fa zhY ?_
 refine zu yA3 ?_
 refine s_eq ?_
 refine zy ?_
 refine zf ?_
 exact s_jn (fu,(decide (v34.depth=0))) ⟨by first | omega | (dsimp only;omega),F13⟩
 clear F12
 rintro ⟨fu,g37⟩ ⟨hl38,F13⟩
 dsimp only at hl38 F13 ⊢
 obtain _ | fu:=fu
 · rw [zdO] at F13;cases F13
 rw [zdO] at F13
 refine zm F13 ?_ ?_<;>intro C39 F14
 refine zz (zq (zr (zd (za ?_))))
 refine zJ (zar C32 B33 hn_g28) ?_
 refine s_mv ?_
 refine zf ?_
 exact s_rn (fu,(g28+1),g29,g30) ⟨by first | omega | (dsimp only;omega),F14,by first | omega | (dsimp only;omega)⟩
 refine zi (zd (zb (za ?_)))
 refine s_mv ?_
 refine s_mv ?_
 refine s_bs rI [g28] yP24 yR3 ?_
 obtain ⟨hk40,F15⟩:=zac F14
 refine zel rI (fun _=>rfl) hk40 yP24 ?_
 refine s_as ?_
 refine zf (zd (zb ?_))
 refine za2 (α:=Nat × Bool) [97,98,99,100,101,102,103,104,105] [] [] (fun a=>[(105,.t (.sc (.bool a.2)))]) (fun a=>[]) (fun a=>a.1≤fu∧zdN a.1 x1 x2 g7 g8 g9 g10 g11 g12 g13 v17 g28 g29 v34 a.2=some r) ?_ ?_
 refine za ?_
 refine s_mv ?_
 refine s_ge ?_
 refine s_mv ?_
 refine zo _ 99 F15 ?_ ?_<;>intro C41 F16
 refine s_mv ?_
 refine s_fa ziE ?_
 refine zu yA30 ?_
 refine zC yU30 ?_
 refine s_ne ?_
 refine zA ?_
 refine zf ?_
 exact s_jn (fu,(decide (g30≠(v34.many.length:Int)))) ⟨by first | omega | (dsimp only;omega),F16⟩
 iterate 5 refine r_no rfl ?_
 refine zy ?_
 refine zf ?_
 exact s_jn (fu,false) ⟨by first | omega | (dsimp only;omega),F16⟩
 clear F15
 rintro ⟨fu,g42⟩ ⟨hl43,F16⟩
 dsimp only at hl43 F16 ⊢
 obtain _ | fu:=fu
 · rw [zdN] at F16;cases F16
 rw [zdN] at F16
 refine zm F16 ?_ ?_<;>intro C44 F17
 refine zb (za ?_)
 refine zgE yZ27 yL27 ?_
 refine zab yS27 ?_
 refine s_as ?_
 refine zf (zd (zh (zg (zj (zg (zw (zj (zex (zj (zg (zw (zj (zg (zn ?_))))))))))))))
 cases F17
 exact zZ [] [] (by rw [Tryz.results109];exact (zas (by conv=>lhs;whnf) (by conv=>lhs;whnf) yA27 yS27 rfl (zaj (by conv=>lhs;whnf) zae)))
 refine zi (zd (za ?_))
 refine s_fa ziE ?_
 refine zu yA30 ?_
 refine zC yU30 ?_
 refine s_as ?_
 refine zf (zW (zd (za ?_)))
 refine zJ (zar C32 B33 hn_g28) ?_
 refine s_mv ?_
 refine zf ?_
 exact s_rn (fu,(g28+1),(g29++[g28]),(v34.many.length:Int)) ⟨by first | omega | (dsimp only;omega),F17,by first | omega | (dsimp only;omega)⟩ [(5080,96)]
 refine zz (zq (zp (zr ?_)))
 exact s_jn (fu,g30,g29) ⟨by first | omega | (dsimp only;omega),F10⟩
 clear F8
 rintro ⟨fu,g45,g46⟩ ⟨hl47,F9⟩
 dsimp only at hl47 F9 ⊢
 obtain _ | fu:=fu
 · rw [zfr] at F9;cases F9
 rw [zfr] at F9
 refine zb (za ?_)
 refine s_as ?_
 refine zf (zd (zl ?_))
 refine zeV 7 5020 5140 [.t (.sc (.int .i64 g8)),.t (.sc (.str g9)),.t (.sc (.int .i64 g10)),.t (.sl (g11.map rI)),.ar 5140] ?_
 refine zak [5,17,18,20,111,112,113,114,115,116,117,118,119,120,121,122,123,124,125,126,127,128,129,130,131,132,133,134,135,136,137,138,139,140,141] [7,8,5140] [2117,32139] [5140] (fun a:Nat × Int × Int × ByteArray × Int × (List Int) × (List Form) × Int=>a.1) (fun a:Nat × Int × Int × ByteArray × Int × (List Int) × (List Form) × Int=>[(17,.t (.sc (.int .i64 a.2.1)))]) (fun a:Nat × Int × Int × ByteArray × Int × (List Int) × (List Form) × Int=>[(7,.box [.t (.sc (.int .i64 a.2.2.1)),.t (.sc (.str a.2.2.2.1)),.t (.sc (.int .i64 a.2.2.2.2.1)),.t (.sl (a.2.2.2.2.2.1.map rI)),.ar 5140]),(8,.box [.t (.sc (.int .i64 a.2.2.2.2.2.2.2))]),(5140,.arr (a.2.2.2.2.2.2.1.map Form.row) 27 true)]) (fun a:Nat × Int × Int × ByteArray × Int × (List Int) × (List Form) × Int=>a.1≤fu∧zdM a.1 x1 x2 g7 v17 g45 g46 a.2.1 a.2.2.1 a.2.2.2.1 a.2.2.2.2.1 a.2.2.2.2.2.1 a.2.2.2.2.2.2.1 a.2.2.2.2.2.2.2=some r) (fu,0,g8,g9,g10,g11,g12,g13) ⟨Nat.le_refl _,F9⟩ (by rfl) (by rfl) (fun _=>rfl) (zI (by conv=>lhs;whnf) (by rfl) zaX) (zL (by conv=>lhs;whnf) (by rfl) (zL (by conv=>lhs;whnf) (by rfl) (zL (by conv=>lhs;whnf) (by rfl) zaK))) (zbZ hC rfl) (by repeat (first | exact z6 rfl | refine zal rfl ?_ | refine zQ rfl ?_)) (by repeat (first | exact zay | exact zad rfl | refine zam rfl ?_ | refine zR rfl ?_)) ?_
 clear F9
 rintro ⟨fu,g48,g49,g50,g51,g52,g53,g54⟩ ⟨hl55,F10⟩
 dsimp only at hl55 F10 ⊢
 obtain _ | fu:=fu
 · rw [zdM] at F10;cases F10
 rw [zdM] at F10
 refine zb (zb (za ?_))
 refine s_mv ?_
 refine s_mv ?_
 refine s_lt ?_
 refine zf (zd ?_)
 refine zm F10 ?_ ?_<;>intro C56 F11
 refine zi (zd (zb (zl (zb (za ?_)))))
 refine s_mv ?_
 obtain ⟨v57,V57,F12⟩:=zc F11
 refine z4 [(9200,2117)] [] _ _ (m_slices_Clone_Hit_ok fu _ _ V57) ?_
 refine s_as ?_
 refine zf (zd ?_)
 refine za2 (α:=Nat × (List Hit)) [20,118,119,120,121,122,123,124,125,126,127,128,129,130,131,132,133,134,135] [2117] [] (fun a=>[]) (fun a=>[(2117,.arr (a.2.map Hit.row) 40 true)]) (fun a=>a.1≤fu∧zfq a.1 x1 x2 g7 v17 g45 g46 g48 g49 g50 g51 g52 g53 g54 a.2=some r) ?_ ?_
 refine zb (za ?_)
 refine s_mv ?_
 refine zhc yU24 ?_
 refine s_mv ?_
 refine zf (zd (zl ?_))
 refine zaP (β:=Int × (List Hit)) [20,120,121,122,123,124,125,126,127,128,129,130,131,132,133,134,135] [2117] [] (fun a=>[(120,.t (.sc (.int .i64 a.2.1)))]) (fun a=>[(2117,.arr (a.2.2.map Hit.row) 40 true)]) (fun a=>a.1≤fu∧zc4 a.1 x1 x2 g7 v17 g45 g46 g48 g49 g50 g51 g52 g53 g54 a.2.1 a.2.2=some r∧0≤a.2.1) (fu,0,v57) ⟨Nat.le_refl _,F12,by simp⟩ ?_
 clear F12
 rintro ⟨fu,g58,g59⟩ ⟨hl60,F13,hn_g58⟩
 dsimp only at hl60 F13 hn_g58 ⊢
 obtain _ | fu:=fu
 · rw [zc4] at F13;cases F13
 rw [zc4] at F13
 refine zb (za ?_)
 refine s_lt ?_
 refine zf (zd (zb ?_))
 refine zm F13 ?_ ?_<;>intro C61 F14
 refine ziw 12 5080 (fun B62=>?_)
 refine zi (zd (zb (zl (zb (za ?_)))))
 obtain ⟨v63,V63,F15⟩:=zc F14
 refine ziy rI V63 yE24 ?_
 refine s_lA1 rI V63 rfl yA3 ?_
 refine s_as ?_
 refine zf (zd (za ?_))
 iterate 4 refine s_mv ?_
 obtain ⟨v64,V64,F16⟩:=zc F15
 refine zK Hit.row V64 (Hit.row_eq _) yE30 ?_
 refine s_fa ziE ?_
 refine zu yA30 ?_
 refine s_mv ?_
 obtain ⟨v65,V65,F17⟩:=zc F16
 refine zK Hit.row V65 (Hit.row_eq _) yE30 ?_
 refine zai yA40 yS40 ?_
 obtain ⟨v66,V66,F18⟩:=zc F17
 refine ziy Hit.row V66 yE30 ?_
 refine s_stA Hit.row v65 V66 (Hit.row_eq _) (Hit.row_eq _) yS40 yS40 ?_
 refine zf (zW (zd (za ?_)))
 refine zJ (zar C61 B62 hn_g58) ?_
 refine s_mv ?_
 refine zf ?_
 exact s_rn (fu,(g58+1),(g59.set v63.toNat v65)) ⟨by first | omega | (dsimp only;omega),F18,by first | omega | (dsimp only;omega)⟩
 refine zz (zq (zp (zr ?_)))
 exact s_jn (fu,g59) ⟨by first | omega | (dsimp only;omega),F14⟩
 clear F12
 rintro ⟨fu,g67⟩ ⟨hl68,F13⟩
 dsimp only at hl68 F13 ⊢
 obtain _ | fu:=fu
 · rw [zfq] at F13;cases F13
 rw [zfq] at F13
 refine zb (za ?_)
 refine s_mv ?_
 refine zG yA27 yS27 ?_
 refine s_mv ?_
 obtain ⟨v69,V69,F14⟩:=zc F13
 refine z4 [(9000,8),(9001,7),(9444,5140),(10444,32139)] [2117] _ _ (ih_m_impl_fill_1 fu (by omega) _ _ _ _ _ V69) ?_
 refine zaG ?_
 refine zf (zd ?_)
 refine zm F14 ?_ ?_<;>intro C70 F15
 refine zb (za ?_)
 refine zgE yZ27 yL27 ?_
 refine zab yS27 ?_
 refine s_as ?_
 refine zf (zd (zh (zj (zg (zw (zj (zj (zg (zw (zj (zg (zn ?_))))))))))))
 cases F15
 exact zZ [] [] (by rw [Tryz.results109];exact (zas (by conv=>lhs;whnf) (by conv=>lhs;whnf) yA27 yS27 rfl (zaj (by conv=>lhs;whnf) zae)))
 refine zi (zW (zd (za ?_)))
 refine s_mv ?_
 refine zJ rfl ?_
 refine s_as ?_
 refine zf ?_
 exact s_rn (fu,(w64 (g48+1)),v69.2.2.kind,v69.2.2.name,v69.2.2.n,v69.2.2.scopes,v69.2.2.kids,v69.2.1) ⟨by first | omega | (dsimp only;omega),F15⟩ [(5140,32139)]
 refine zz (zq (zp (zr (zW (zd (za ?_))))))
 refine zJ rfl ?_
 refine s_mv ?_
 refine zf ?_
 exact s_rn (fu,(w64 (g7+1)),g49,g50,g51,g52,g53,g54) ⟨by first | omega | (dsimp only;omega),F11⟩ [(5020,5140)]
 refine zz (zq (zp (zr (zd (zb (za ?_))))))
 refine zG yA27 yS27 ?_
 refine zab yS27 ?_
 refine s_as ?_
 refine zf (zd (zh (zn ?_)))
 cases F3
 exact zZ [] [5020] (by rw [Tryz.results109];exact (zas (by conv=>lhs;whnf) (by conv=>lhs;whnf) yA27 yS27 rfl (zaj (by conv=>lhs;whnf) zae)))
end Go.Abs
