/- A part of the proof: what the functions that the law calls answer, as pure values. -/
import Derived.Test.YtcllpfmjggkpnaaGreatK87b9047474df
import Derived.Test.YtcllpfmjggkpnaaGreatKa9a65b968d17
import Derived.Test.YtcllpfmjggkpnaaGreatK91fcc0fd7672
import Derived.Test.YtcllpfmjggkpnaaGreatKf13d1da57272
import Derived.Test.YtcllpfmjggkpnaaGreatKf8320a019dd3
import Derived.Test.YtcllpfmjggkpnaaGreatK51caa9494268
import Derived.Test.YtcllpfmjggkpnaaGreatKa8136476e481
import Derived.Test.YtcllpfmjggkpnaaGreatK1df75f79e59f
import Derived.Test.YtcllpfmjggkpnaaGreatK9007fc86218d
import Derived.Test.YtcllpfmjggkpnaaGreatKfa16095425eb
set_option linter.unusedSimpArgs false
set_option linter.unusedVariables false
set_option maxRecDepth 100000
set_option maxHeartbeats 4000000
namespace Go.Abs
open Go.Proofs
def m_spec_l5Rules_AC (fuel:Nat):Prop:=∀ (x1:(List Rule)) (x2:(List Form)) (r:Bool),zeD fuel x1 x2=some r→AC Tryz.prog 127 [.t (.sl (x1.map Rule.row)),.t (.sl (x2.map Form.row))] noOb (.t (.sc (.bool r))) noOb
theorem zhw (fuel:Nat):m_spec_l5Rules_AC fuel:=by
 intro x1 x2 r F0
 unfold zeD at F0
 refine AC_i [.t (.sc (.bool r))] Tryz.func127 rfl Tryz.ntmps127 ?_
 intro C hC
 refine zb (za ?_)
 refine s_as ?_
 refine zf (zd (zb (zb (za ?_))))
 refine s_as ?_
 refine zf (zd (zk ?_))
 refine zbk (β:=Int) [4,5,6,7,8,9,10,11,12,13,14,15,16,17,18,19,20,21,22] [] [] (fun a=>[(5,.t (.sc (.int .i64 a.2)))]) (fun a=>[]) (fun a=>a.1≤fuel∧zb0 a.1 x1 x2 a.2=some r) (fuel,0) ⟨Nat.le_refl _,F0⟩ ?_
 clear F0
 rintro ⟨fu,g1⟩ ⟨hl2,F1⟩
 dsimp only at hl2 F1 ⊢
 obtain _ | fu:=fu
 · rw [zb0] at F1;cases F1
 rw [zb0] at F1
 refine zb ?_
 refine zbj (α:=Nat × Bool) [6,7,8,9,10,11,12,13] [] [] (fun a=>[(13,.t (.sc (.bool a.2)))]) (fun a=>[]) (fun a=>a.1≤fu∧zb1 a.1 x1 x2 g1 a.2=some r) ?_ ?_
 refine za ?_
 refine s_mv ?_
 refine s_mv ?_
 refine zF yU100 ?_
 refine s_lt ?_
 refine s_mv ?_
 refine zo _ 10 F1 ?_ ?_<;>intro C3 F2
 refine s_mv ?_
 refine s_lt ?_
 refine zz ?_
 refine zf ?_
 exact s_jn (fu,(decide (g1 < 10))) ⟨by first | omega | (dsimp only;omega),F2⟩
 refine r_no rfl (r_no rfl ?_)
 refine zB ?_
 refine zf ?_
 exact s_jn (fu,false) ⟨by first | omega | (dsimp only;omega),F2⟩
 clear F1
 rintro ⟨fu,g4⟩ ⟨hl5,F2⟩
 dsimp only at hl5 F2 ⊢
 obtain _ | fu:=fu
 · rw [zb1] at F2;cases F2
 rw [zb1] at F2
 refine zm F2 ?_ ?_<;>intro C6 F3
 refine zi (zd (zb (zk (zb (za ?_)))))
 refine s_mv ?_
 refine s_mv ?_
 obtain ⟨v7,V7,F4⟩:=zc F3
 refine zN Rule.row V7 (Rule.row_eq _) yE100 ?_
 refine zas yA106 yS106 ?_
 refine s_mv ?_
 obtain ⟨v8,V8,F5⟩:=zc F4
 refine zx [] (m_spec_l5Rule_ok fu _ _ _ V8) ?_
 refine zbq ?_
 refine zf (zd ?_)
 refine zm F5 ?_ ?_<;>intro C9 F6
 refine zb (za ?_)
 refine s_as ?_
 refine zf (zd (zh (zj (zg (zy (zj (zg (zn ?_))))))))
 cases F6
 exact zl [] [] Tryz.results127
 refine zi (zaa (zd (za ?_)))
 refine s_mv ?_
 refine zO rfl ?_
 refine s_as ?_
 refine zf ?_
 exact s_rn (fu,(w64 (g1+1))) ⟨by first | omega | (dsimp only;omega),F6⟩
 refine zA (zq (zp (zr (zd (zb (za ?_))))))
 refine s_mv ?_
 refine zF yU100 ?_
 refine s_lt ?_
 refine s_mv ?_
 refine zo _ 26 F3 ?_ ?_<;>intro C10 F4
 refine s_mv ?_
 obtain ⟨v11,V11,F5⟩:=zc F4
 refine zx [] (zgK fu _ _ V11) ?_
 refine zz ?_
 refine s_as ?_
 refine zf (zd (zh (zn ?_)))
 cases F5
 exact zl [] [] Tryz.results127
 refine r_no rfl (r_no rfl ?_)
 refine zB ?_
 refine s_as ?_
 refine zf (zd (zh (zn ?_)))
 cases F4
 exact zl [] [] Tryz.results127
def m_spec_ParseRules_AC (fuel:Nat):Prop:=∀ (x1:Form) (r:((List Form) × (List Rule) × Bool)),zcE fuel x1=some r→AC Tryz.prog 126 [.ag [.t (.sc (.int .i64 x1.kind)),.t (.sc (.str x1.name)),.t (.sc (.int .i64 x1.n)),.t (.sl (x1.scopes.map rI)),.t (.sl (x1.kids.map Form.row))]] noOb (.tp [.t (.sl (r.1.map Form.row)),.t (.sl (r.2.1.map Rule.row)),.t (.sc (.bool r.2.2))]) noOb
theorem zgL (fuel:Nat):m_spec_ParseRules_AC fuel:=by
 intro x1 r F0
 unfold zcE at F0
 refine AC_i [.t (.sl (r.1.map Form.row)),.t (.sl (r.2.1.map Rule.row)),.t (.sc (.bool r.2.2))] Tryz.func126 rfl Tryz.ntmps126 ?_
 intro C hC
 refine zb (za ?_)
 refine za9 ?_
 iterate 3 refine s_as ?_
 refine zf (zd (zb (za ?_)))
 refine s_bs Form.row ([]:List Form) yP25 yR27 ?_
 refine s_as ?_
 refine zf (zd (zb (za ?_)))
 refine s_bs Rule.row ([]:List Rule) yP100 yR106 ?_
 refine s_as ?_
 refine zf (zd (zb ?_))
 refine zbj (α:=Nat × Bool) [11,12,13,14,15,16,17,18,19,20,21,22,23,24,25,26,27,28,29,30,31,32,33,34,35,36,37,38,39,40] [] [] (fun a=>[(40,.t (.sc (.bool a.2)))]) (fun a=>[]) (fun a=>a.1≤fuel∧zay a.1 x1 a.2=some r) ?_ ?_
 refine za ?_
 refine zJ yA27 yS27 ?_
 obtain ⟨v1,V1,F1⟩:=zc F0
 refine zx [] (zaQ fuel _ _ V1) ?_
 refine zbq ?_
 refine s_mv ?_
 refine zo _ 14 F1 ?_ ?_<;>intro C2 F2
 iterate 3 refine r_no rfl ?_
 refine zz ?_
 refine s_mv ?_
 iterate 4 refine r_no rfl ?_
 refine zz ?_
 refine s_mv ?_
 iterate 6 refine r_no rfl ?_
 refine zz ?_
 refine s_mv ?_
 iterate 6 refine r_no rfl ?_
 refine zz ?_
 refine zf ?_
 exact s_jn (fuel,true) ⟨by first | omega | (dsimp only;omega),F2⟩
 refine s_fa zcT ?_
 refine zu yA3 ?_
 refine s_ne ?_
 refine zB ?_
 refine s_mv ?_
 refine zo _ 19 F2 ?_ ?_<;>intro C3 F3
 iterate 4 refine r_no rfl ?_
 refine zz ?_
 refine s_mv ?_
 iterate 6 refine r_no rfl ?_
 refine zz ?_
 refine s_mv ?_
 iterate 6 refine r_no rfl ?_
 refine zz ?_
 refine zf ?_
 exact s_jn (fuel,true) ⟨by first | omega | (dsimp only;omega),F3⟩
 refine s_fa zH ?_
 refine zu yA25 ?_
 refine zF yU25 ?_
 refine s_lt ?_
 refine zB ?_
 refine s_mv ?_
 refine zo _ 25 F3 ?_ ?_<;>intro C4 F4
 iterate 6 refine r_no rfl ?_
 refine zz ?_
 refine s_mv ?_
 iterate 6 refine r_no rfl ?_
 refine zz ?_
 refine zf ?_
 exact s_jn (fuel,true) ⟨by first | omega | (dsimp only;omega),F4⟩
 refine s_fa zH ?_
 refine zu yA25 ?_
 obtain ⟨v5,V5,F5⟩:=zc F4
 refine zN Form.row V5 (Form.row_eq _) yE25 ?_
 refine s_fa zdp ?_
 refine zu yA9 ?_
 refine s_neS ?_
 refine zB ?_
 refine s_mv ?_
 refine zo _ 33 F5 ?_ ?_<;>intro C6 F6
 iterate 6 refine r_no rfl ?_
 refine zz ?_
 refine zf ?_
 exact s_jn (fuel,true) ⟨by first | omega | (dsimp only;omega),F6⟩
 refine s_fa zH ?_
 refine zu yA25 ?_
 obtain ⟨v7,V7,F7⟩:=zc F6
 refine zN Form.row V7 (Form.row_eq _) yE25 ?_
 refine s_fa zcT ?_
 refine zu yA3 ?_
 refine s_ne ?_
 refine zB ?_
 refine zf ?_
 exact s_jn (fuel,(decide (v7.kind≠3))) ⟨by first | omega | (dsimp only;omega),F7⟩
 clear F0
 rintro ⟨fu,g8⟩ ⟨hl9,F1⟩
 dsimp only at hl9 F1 ⊢
 obtain _ | fu:=fu
 · rw [zay] at F1;cases F1
 rw [zay] at F1
 refine zm F1 ?_ ?_<;>intro C10 F2
 refine zb (za ?_)
 refine s_mv ?_
 refine s_mv ?_
 iterate 3 refine s_as ?_
 refine zf (zd (zh (zg (zn ?_))))
 cases F2
 exact zl [] [9,10] Tryz.results126
 refine zi (zd ?_)
 refine zbj (α:=Nat × (List Form)) [5,7,43,44,45,46,47,48,49,50,51,52,53,54,55,56,57,58,59,60,61,62,63,64] [9,5060] [] (fun a=>[(5,.ar 5060)]) (fun a=>[(9,.dead),(5060,.arr (a.2.map Form.row) 27 true)]) (fun a=>a.1≤fu∧zci a.1 x1 a.2=some r) ?_ ?_
 refine zb (za ?_)
 refine s_as ?_
 refine zf (zd (zk ?_))
 refine zdl 5 9 5060 (by conv=>lhs;whnf) (by conv=>lhs;whnf) rfl ?_
 refine zap [5,7,43,44,45,46,47,48,49,50,51,52,53,54,55,56,57,58,59,60,61,62,63,64] [5060] [63,64,2062,12062] [5060] (fun a:Nat × (List Form) × Int=>a.1) (fun a:Nat × (List Form) × Int=>[(5,.ar 5060),(7,.t (.sc (.int .i64 a.2.2)))]) (fun a:Nat × (List Form) × Int=>[(5060,.arr (a.2.1.map Form.row) 27 true)]) (fun a:Nat × (List Form) × Int=>a.1≤fu∧zbd a.1 x1 a.2.1 a.2.2=some r∧0≤a.2.2) (fu,([]:List Form),0) ⟨Nat.le_refl _,F2,by simp⟩ (by rfl) (by rfl) (fun _=>rfl) (zG (by conv=>lhs;whnf) (by rfl) (zG (by conv=>lhs;whnf) (by rfl) za7)) (zT (by conv=>lhs;whnf) (by rfl) zaW) (zb7 hC rfl) (by repeat (first | exact zai rfl | refine zat rfl ?_ | refine zX rfl ?_)) (by repeat (first | exact zaL | exact zam rfl | refine zau rfl ?_ | refine zY rfl ?_)) ?_
 clear F2
 rintro ⟨fu,g11,g12⟩ ⟨hl13,F3,hn_g12⟩
 dsimp only at hl13 F3 hn_g12 ⊢
 obtain _ | fu:=fu
 · rw [zbd] at F3;cases F3
 rw [zbd] at F3
 refine zb (zb (za ?_))
 refine s_mv ?_
 refine s_fa zH ?_
 refine zu yA25 ?_
 obtain ⟨v14,V14,F4⟩:=zc F3
 refine zN Form.row V14 (Form.row_eq _) yE25 ?_
 refine s_fa zH ?_
 refine zu yA25 ?_
 refine zF yU25 ?_
 refine s_lt ?_
 refine zf (zd ?_)
 refine zm F4 ?_ ?_<;>intro C15 F5
 refine zW 48 (fun B16=>?_)
 refine zi (zd (zb (zk (za ?_))))
 refine s_mv ?_
 refine s_fa zH ?_
 refine zu yA25 ?_
 obtain ⟨v17,V17,F6⟩:=zc F5
 refine zN Form.row V17 (Form.row_eq _) yE25 ?_
 refine s_fa zH ?_
 refine zu yA25 ?_
 refine s_mv ?_
 obtain ⟨v18,V18,F7⟩:=zc F6
 refine zN Form.row V18 (Form.row_eq _) yE25 ?_
 refine zas yA27 yS27 ?_
 obtain ⟨v19,V19,F8⟩:=zc F7
 refine zU [(9203,2062),(9204,12062)] [] _ _ (zbW fu _ _ V19) ?_
 refine s_bs Form.row [v19] yP25 yR27 ?_
 obtain ⟨hk20,F9⟩:=zab F8
 refine zd4 Form.row (fun y=>Form.row_len y) hk20 yP25 ?_
 refine s_as ?_
 refine zf (zaa (zd (za ?_)))
 refine s_mv ?_
 refine zO (zaJ C15 B16 hn_g12) ?_
 refine s_as ?_
 refine zf ?_
 exact s_rn (fu,(g11++[v19]),(g12+1)) ⟨by first | omega | (dsimp only;omega),F9,by first | omega | (dsimp only;omega)⟩ [(5060,64)]
 refine zA (zq (zp (zr ?_)))
 exact s_jn (fu,g11) ⟨by first | omega | (dsimp only;omega),F5⟩
 clear F2
 rintro ⟨fu,g21⟩ ⟨hl22,F3⟩
 dsimp only at hl22 F3 ⊢
 obtain _ | fu:=fu
 · rw [zci] at F3;cases F3
 rw [zci] at F3
 refine zbj (α:=Nat × (List Rule)) [2,3,4,6,8,65,66,67,68,69,70,71,72,73,74,75,76,77,78,79,80,81,82,83,84,85,86,87,88,89,90,91,92,93,94,95,96,97,98,99,100,101,102,103,104,105,106,107,108,109,110,111,112] [10,5100] [] (fun a=>[(6,.ar 5100)]) (fun a=>[(10,.dead),(5100,.arr (a.2.map Rule.row) 106 true)]) (fun a=>a.1≤fu∧zc7 a.1 g21 a.2=some r) ?_ ?_
 refine zb (za ?_)
 refine s_as ?_
 refine zf (zd (zk ?_))
 refine zdl 6 10 5100 (by conv=>lhs;whnf) (by conv=>lhs;whnf) rfl ?_
 refine zap [2,3,4,6,8,65,66,67,68,69,70,71,72,73,74,75,76,77,78,79,80,81,82,83,84,85,86,87,88,89,90,91,92,93,94,95,96,97,98,99,100,101,102,103,104,105,106,107,108,109,110,111,112] [5100] [111,112,2100,2109,12100,12109] [5100] (fun a:Nat × (List Rule) × Int=>a.1) (fun a:Nat × (List Rule) × Int=>[(6,.ar 5100),(8,.t (.sc (.int .i64 a.2.2)))]) (fun a:Nat × (List Rule) × Int=>[(5100,.arr (a.2.1.map Rule.row) 106 true)]) (fun a:Nat × (List Rule) × Int=>a.1≤fu∧zbc a.1 x1 g21 a.2.1 a.2.2=some r∧0≤a.2.2) (fu,([]:List Rule),2) ⟨Nat.le_refl _,F3,by simp⟩ (by rfl) (by rfl) (fun _=>rfl) (zG (by conv=>lhs;whnf) (by rfl) (zG (by conv=>lhs;whnf) (by rfl) za7)) (zT (by conv=>lhs;whnf) (by rfl) zaW) (zb7 hC rfl) (by repeat (first | exact zai rfl | refine zat rfl ?_ | refine zX rfl ?_)) (by repeat (first | exact zaL | exact zam rfl | refine zau rfl ?_ | refine zY rfl ?_)) ?_
 clear F3
 rintro ⟨fu,g23,g24⟩ ⟨hl25,F4,hn_g24⟩
 dsimp only at hl25 F4 hn_g24 ⊢
 obtain _ | fu:=fu
 · rw [zbc] at F4;cases F4
 rw [zbc] at F4
 refine zb (zb (za ?_))
 refine s_mv ?_
 refine s_fa zH ?_
 refine zu yA25 ?_
 refine zF yU25 ?_
 refine s_lt ?_
 refine zf (zd ?_)
 refine zm F4 ?_ ?_<;>intro C26 F5
 refine zW 67 (fun B27=>?_)
 refine zi (zd (zb (zk (zb ?_))))
 refine zbj (α:=Nat × Bool) [72,73,74,75,76,77,78,79,80,81,82,83,84,85,86,87,88] [] [] (fun a=>[(88,.t (.sc (.bool a.2)))]) (fun a=>[]) (fun a=>a.1≤fu∧zbe a.1 x1 g21 g23 g24 a.2=some r) ?_ ?_
 refine za ?_
 refine s_fa zH ?_
 refine zu yA25 ?_
 refine s_mv ?_
 obtain ⟨v28,V28,F6⟩:=zc F5
 refine zN Form.row V28 (Form.row_eq _) yE25 ?_
 refine s_fa zcT ?_
 refine zu yA3 ?_
 refine s_ne ?_
 refine s_mv ?_
 refine zo _ 79 F6 ?_ ?_<;>intro C29 F7
 iterate 8 refine r_no rfl ?_
 refine zz ?_
 refine zf ?_
 exact s_jn (fu,true) ⟨by first | omega | (dsimp only;omega),F7⟩
 refine s_fa zH ?_
 refine zu yA25 ?_
 refine s_mv ?_
 obtain ⟨v30,V30,F8⟩:=zc F7
 refine zN Form.row V30 (Form.row_eq _) yE25 ?_
 refine s_fa zH ?_
 refine zu yA25 ?_
 refine zF yU25 ?_
 refine s_ne ?_
 refine zB ?_
 refine zf ?_
 exact s_jn (fu,(decide ((v30.kids.length:Int)≠2))) ⟨by first | omega | (dsimp only;omega),F8⟩
 clear F5
 rintro ⟨fu,g31⟩ ⟨hl32,F6⟩
 dsimp only at hl32 F6 ⊢
 obtain _ | fu:=fu
 · rw [zbe] at F6;cases F6
 rw [zbe] at F6
 refine zm F6 ?_ ?_<;>intro C33 F7
 refine zb (za ?_)
 refine s_bs Form.row ([]:List Form) yP25 yR27 ?_
 refine s_bs Rule.row ([]:List Rule) yP100 yR106 ?_
 iterate 3 refine s_as ?_
 refine zf (zd (zh (zg (zj (zg (zy (zj (zfh (zn ?_)))))))))
 cases F7
 exact zl [] [89,90] Tryz.results126
 refine zi (zd ?_)
 refine z7 yMix (by kernel_rfl) ?_
 refine zhr ?_
 refine s_fa zH ?_
 refine zu yA25 ?_
 refine s_mv ?_
 obtain ⟨v34,V34,F8⟩:=zc F7
 refine zN Form.row V34 (Form.row_eq _) yE25 ?_
 refine s_fa zH ?_
 refine zu yA25 ?_
 obtain ⟨v35,V35,F9⟩:=zc F8
 refine zN Form.row V35 (Form.row_eq _) yE25 ?_
 refine zas yA27 yS27 ?_
 obtain ⟨v36,V36,F10⟩:=zc F9
 refine zU [(9203,2100),(9204,12100)] [] _ _ (zbW fu _ _ V36) ?_
 refine s_fa zH ?_
 refine zu yA25 ?_
 refine s_mv ?_
 obtain ⟨v37,V37,F11⟩:=zc F10
 refine zN Form.row V37 (Form.row_eq _) yE25 ?_
 refine s_fa zH ?_
 refine zu yA25 ?_
 obtain ⟨v38,V38,F12⟩:=zc F11
 refine zN Form.row V38 (Form.row_eq _) yE25 ?_
 refine zas yA27 yS27 ?_
 obtain ⟨v39,V39,F13⟩:=zc F12
 refine zU [(9203,2109),(9204,12109)] [] _ _ (zbW fu _ _ V39) ?_
 refine zeJ yZ106 yL106 ?_
 refine s_bs Rule.row [(Rule.mk v36 v39)] yP100 yR106 ?_
 obtain ⟨hk40,F14⟩:=zab F13
 refine zd4 Rule.row (fun y=>Rule.row_len y) hk40 yP100 ?_
 refine s_as ?_
 refine zar (by kernel_rfl) ?_
 refine zaa (zd (za ?_))
 refine s_mv ?_
 refine zO (zaJ C26 B27 hn_g24) ?_
 refine s_as ?_
 refine zf ?_
 exact s_rn (fu,(g23++[(Rule.mk v36 v39)]),(g24+1)) ⟨by first | omega | (dsimp only;omega),F14,by first | omega | (dsimp only;omega)⟩ [(5100,112)]
 refine zA (zq (zp (zr ?_)))
 exact s_jn (fu,g23) ⟨by first | omega | (dsimp only;omega),F5⟩
 clear F3
 rintro ⟨fu,g41⟩ ⟨hl42,F4⟩
 dsimp only at hl42 F4 ⊢
 obtain _ | fu:=fu
 · rw [zc7] at F4;cases F4
 rw [zc7] at F4
 refine zb (zb (za ?_))
 refine s_mv ?_
 refine s_mv ?_
 obtain ⟨v43,V43,F5⟩:=zc F4
 refine zx [5100,5060] (zhw fu _ _ _ V43) ?_
 refine zbq ?_
 refine zf (zd ?_)
 refine zm F5 ?_ ?_<;>intro C44 F6
 refine zb (za ?_)
 refine s_bs Form.row ([]:List Form) yP25 yR27 ?_
 refine s_bs Rule.row ([]:List Rule) yP100 yR106 ?_
 iterate 3 refine s_as ?_
 refine zf (zd (zh (zg (zn ?_))))
 cases F6
 exact zl [] [117,118] Tryz.results126
 refine zi (zd (zb (za ?_)))
 refine s_mv ?_
 refine s_mv ?_
 iterate 3 refine s_as ?_
 refine zf (zd (zh (zn ?_)))
 cases F6
 exact zl [] [5060,5100] Tryz.results126
def m_spec_l5Case_AC (fuel:Nat):Prop:=∀ (x1:(List Int)) (r:((List Form) × (List Rule) × Form)),zfY fuel x1=some r→AC Tryz.prog 83 [.t (.sl (x1.map rB))] noOb (.tp [.t (.sl (r.1.map Form.row)),.t (.sl (r.2.1.map Rule.row)),.ag [.t (.sc (.int .i64 r.2.2.kind)),.t (.sc (.str r.2.2.name)),.t (.sc (.int .i64 r.2.2.n)),.t (.sl (r.2.2.scopes.map rI)),.t (.sl (r.2.2.kids.map Form.row))]]) noOb
theorem m_spec_l5Case_ok (fuel:Nat):m_spec_l5Case_AC fuel:=by
 intro x1 r F0
 unfold zfY at F0
 refine AC_i [.t (.sl (r.1.map Form.row)),.t (.sl (r.2.1.map Rule.row)),.ag [.t (.sc (.int .i64 r.2.2.kind)),.t (.sc (.str r.2.2.name)),.t (.sc (.int .i64 r.2.2.n)),.t (.sl (r.2.2.scopes.map rI)),.t (.sl (r.2.2.kids.map Form.row))]] Tryz.func83 rfl Tryz.ntmps83 ?_
 intro C hC
 refine zb (za ?_)
 refine s_as ?_
 refine s_as ?_
 refine zR yZ27 ?_
 refine zf (zd (zb (za ?_)))
 refine s_mv ?_
 obtain ⟨v1,V1,F1⟩:=zc F0
 refine zU [(10,14)] [] _ _ (zhB fuel _ _ V1) ?_
 refine s_as ?_
 refine zf (zd (zb (za ?_)))
 obtain ⟨v2,V2,F2⟩:=zc F1
 refine zx [] (m_spec_l5Texts_ok fuel _ V2) ?_
 refine s_as ?_
 refine zf (zd (zb (za ?_)))
 refine s_mv ?_
 refine s_mv ?_
 refine zF yU67 ?_
 obtain ⟨v3,V3,F3⟩:=zc F2
 refine zU [(9000,14)] [] _ _ (zV fuel _ _ _ V3) ?_
 refine s_as ?_
 refine zf (zd (zb (za ?_)))
 refine s_mv ?_
 refine s_mv ?_
 obtain ⟨v4,V4,F4⟩:=zc F3
 refine zN (rL rS) V4 rfl yE67 ?_
 refine zu yA70 ?_
 obtain ⟨v5,V5,F5⟩:=zc F4
 refine zN rS V5 rfl yE70 ?_
 refine zu yA9 ?_
 obtain ⟨v6,V6,F6⟩:=zc F5
 refine zx [] (zdX fuel _ _ V6) ?_
 refine zR yZ27 ?_
 refine zac yS27 ?_
 refine zf (zd ?_)
 refine zbj (α:=Nat × (List Int) × Int × Int × ByteArray × Int × (List Int) × (List Form)) [27,28,29,30,31,32,33,34] [8,14] [] (fun a=>[]) (fun a=>[(8,.box [.t (.sc (.int .i64 a.2.2.2.1)),.t (.sc (.str a.2.2.2.2.1)),.t (.sc (.int .i64 a.2.2.2.2.2.1)),.t (.sl (a.2.2.2.2.2.2.1.map rI)),.t (.sl (a.2.2.2.2.2.2.2.map Form.row))]),(14,.box [.t (.sl (a.2.1.map rB)),.t (.sc (.int .i64 a.2.2.1))])]) (fun a=>a.1≤fuel∧zcq a.1 v2 v3 a.2.1 a.2.2.1 a.2.2.2.1 a.2.2.2.2.1 a.2.2.2.2.2.1 a.2.2.2.2.2.2.1 a.2.2.2.2.2.2.2=some r) ?_ ?_
 refine zb (za ?_)
 refine s_mv ?_
 obtain ⟨v7,V7,F7⟩:=zc F6
 refine zU [(9000,14)] [] _ _ (zV fuel _ _ _ V7) ?_
 refine s_eq ?_
 refine zf (zd ?_)
 refine zm F7 ?_ ?_<;>intro C8 F8
 refine za ?_
 refine s_mv ?_
 refine s_mv ?_
 refine zJ yA27 yS27 ?_
 obtain ⟨v9,V9,F9⟩:=zc F8
 refine zU [(9000,14)] [] _ _ (zcU fuel _ _ _ V9) ?_
 obtain ⟨v10,V10,F10⟩:=zc F9
 refine zU [(9000,14)] [] _ _ (zcU fuel _ _ _ V10) ?_
 refine zac yS27 ?_
 refine zf ?_
 exact s_jn (fuel,v10.2.b,v10.2.p,v10.1.kind,v10.1.name,v10.1.n,v10.1.scopes,v10.1.kids) ⟨by first | omega | (dsimp only;omega),F10⟩
 refine zi ?_
 exact s_jn (fuel,v7.2.b,v7.2.p,v6.kind,v6.name,v6.n,v6.scopes,v6.kids) ⟨by first | omega | (dsimp only;omega),F8⟩
 clear F6
 rintro ⟨fu,g11,g12,g13,g14,g15,g16,g17⟩ ⟨hl18,F7⟩
 dsimp only at hl18 F7 ⊢
 obtain _ | fu:=fu
 · rw [zcq] at F7;cases F7
 rw [zcq] at F7
 refine zb (za ?_)
 refine zJ yA27 yS27 ?_
 obtain ⟨v19,V19,F8⟩:=zc F7
 refine zx [] (zgL fu _ _ V19) ?_
 refine s_mv ?_
 iterate 3 refine zbJ ?_
 iterate 3 refine s_as ?_
 refine zf (zd ?_)
 refine zbj (α:=Nat × (List Form) × (List Rule)) [9,10,41,42,43,44,45,46,47,48,49,50,51,52,53] [] [] (fun a=>[(9,.t (.sl (a.2.1.map Form.row))),(10,.t (.sl (a.2.2.map Rule.row)))]) (fun a=>[]) (fun a=>a.1≤fu∧zcZ a.1 v2 v3 g11 g12 a.2.1 a.2.2=some r) ?_ ?_
 refine zb (za ?_)
 refine s_mv ?_
 refine zbq ?_
 refine zf (zd ?_)
 refine zm F8 ?_ ?_<;>intro C20 F9
 refine za ?_
 refine s_mv ?_
 obtain ⟨v21,V21,F10⟩:=zc F9
 refine zN (rL rS) V21 rfl yE67 ?_
 refine zu yA70 ?_
 obtain ⟨v22,V22,F11⟩:=zc F10
 refine zN rS V22 rfl yE70 ?_
 refine zu yA9 ?_
 obtain ⟨v23,V23,F12⟩:=zc F11
 refine zx [] (zdX fu _ _ V23) ?_
 obtain ⟨v24,V24,F13⟩:=zc F12
 refine zx [] (zgL fu _ _ V24) ?_
 refine s_mv ?_
 iterate 3 refine zbJ ?_
 refine s_as ?_
 refine s_as ?_
 refine zf ?_
 exact s_jn (fu,v24.1,v24.2.1) ⟨by first | omega | (dsimp only;omega),F13⟩
 refine zi ?_
 exact s_jn (fu,v19.1,v19.2.1) ⟨by first | omega | (dsimp only;omega),F9⟩
 clear F8
 rintro ⟨fu,g25,g26⟩ ⟨hl27,F9⟩
 dsimp only at hl27 F9 ⊢
 obtain _ | fu:=fu
 · rw [zcZ] at F9;cases F9
 rw [zcZ] at F9
 refine zb (za ?_)
 refine s_mv ?_
 refine s_mv ?_
 obtain ⟨v28,V28,F10⟩:=zc F9
 refine zN (rL rS) V28 rfl yE67 ?_
 refine zu yA70 ?_
 obtain ⟨v29,V29,F11⟩:=zc F10
 refine zN rS V29 rfl yE70 ?_
 refine zu yA9 ?_
 obtain ⟨v30,V30,F12⟩:=zc F11
 refine zx [] (zdX fu _ _ V30) ?_
 refine zR yZ27 ?_
 refine zac yS27 ?_
 refine zf (zd (zb (zb (za ?_))))
 refine s_mv ?_
 obtain ⟨v31,V31,F13⟩:=zc F12
 refine zU [(9000,14)] [] _ _ (zV fu _ _ _ V31) ?_
 refine zf (zd (zk (zb (za ?_))))
 refine s_eq ?_
 refine s_as ?_
 refine zf (zd ?_)
 refine zm F13 ?_ ?_<;>intro C32 F14
 refine za ?_
 iterate 3 refine s_mv ?_
 refine zF yU67 ?_
 obtain ⟨v33,V33,F15⟩:=zc F14
 refine zU [(9000,14)] [] _ _ (zV fu _ _ _ V33) ?_
 obtain ⟨v34,V34,F16⟩:=zc F15
 refine zN (rL rS) V34 rfl yE67 ?_
 refine zu yA70 ?_
 obtain ⟨v35,V35,F17⟩:=zc F16
 refine zN rS V35 rfl yE70 ?_
 refine zu yA9 ?_
 obtain ⟨v36,V36,F18⟩:=zc F17
 refine zx [] (zdX fu _ _ V36) ?_
 refine zac yS27 ?_
 refine zf (zaa (zd (zb ?_)))
 refine z7 yMix (by kernel_rfl) ?_
 refine s_mv ?_
 refine s_mv ?_
 refine zJ yA27 yS27 ?_
 refine s_as ?_
 refine s_as ?_
 refine zac yS27 ?_
 refine zar (by kernel_rfl) ?_
 refine zd (zh (zn ?_))
 cases F18
 exact zI [] [] (by rw [Tryz.results83];exact (zah (by conv=>lhs;whnf) (zah (by conv=>lhs;whnf) (zZ (by conv=>lhs;whnf) (by conv=>lhs;whnf) yA27 yS27 rfl zP))))
 refine zb (za ?_)
 refine s_eq ?_
 refine s_as ?_
 refine zf (zd ?_)
 refine zm F14 ?_ ?_<;>intro C37 F15
 refine za ?_
 refine s_mv ?_
 refine s_mv ?_
 refine zJ yA27 yS27 ?_
 obtain ⟨v38,V38,F16⟩:=zc F15
 refine zU [(9000,14)] [] _ _ (zcU fu _ _ _ V38) ?_
 obtain ⟨v39,V39,F17⟩:=zc F16
 refine zU [(9000,14)] [] _ _ (zcU fu _ _ _ V39) ?_
 refine zac yS27 ?_
 refine zf (zaa (zd (zb ?_)))
 refine z7 yMix (by kernel_rfl) ?_
 refine s_mv ?_
 refine s_mv ?_
 refine zJ yA27 yS27 ?_
 refine s_as ?_
 refine s_as ?_
 refine zac yS27 ?_
 refine zar (by kernel_rfl) ?_
 refine zd (zh (zn ?_))
 cases F17
 exact zI [] [] (by rw [Tryz.results83];exact (zah (by conv=>lhs;whnf) (zah (by conv=>lhs;whnf) (zZ (by conv=>lhs;whnf) (by conv=>lhs;whnf) yA27 yS27 rfl zP))))
 refine zb (za ?_)
 refine s_eq ?_
 refine s_as ?_
 refine zf (zd ?_)
 refine zm F15 ?_ ?_<;>intro C40 F16
 refine za ?_
 refine s_mv ?_
 refine zJ yA27 yS27 ?_
 obtain ⟨v41,V41,F17⟩:=zc F16
 refine zU [(9000,14)] [] _ _ (m_spec_l1Dress_ok fu _ _ _ V41) ?_
 refine zac yS27 ?_
 refine zf (zaa (zd (zb ?_)))
 refine z7 yMix (by kernel_rfl) ?_
 refine s_mv ?_
 refine s_mv ?_
 refine zJ yA27 yS27 ?_
 refine s_as ?_
 refine s_as ?_
 refine zac yS27 ?_
 refine zar (by kernel_rfl) ?_
 refine zd (zh (zn ?_))
 cases F17
 exact zI [] [] (by rw [Tryz.results83];exact (zah (by conv=>lhs;whnf) (zah (by conv=>lhs;whnf) (zZ (by conv=>lhs;whnf) (by conv=>lhs;whnf) yA27 yS27 rfl zP))))
 refine zi (zaa (zd (zb ?_)))
 refine z7 yMix (by kernel_rfl) ?_
 refine s_mv ?_
 refine s_mv ?_
 refine zJ yA27 yS27 ?_
 refine s_as ?_
 refine s_as ?_
 refine zac yS27 ?_
 refine zar (by kernel_rfl) ?_
 refine zd (zh (zn ?_))
 cases F16
 exact zI [] [] (by rw [Tryz.results83];exact (zah (by conv=>lhs;whnf) (zah (by conv=>lhs;whnf) (zZ (by conv=>lhs;whnf) (by conv=>lhs;whnf) yA27 yS27 rfl zP))))
def m_spec_FirstRule_AC (fuel:Nat):Prop:=∀ (x1:(List Bind)) (x2:(List Rule)) (x3:(List Form)) (x4:Form) (r:(Int × Bool)),zew fuel x1 x2 x3 x4=some r→AC Tryz.prog 84 [.t (.sl (x1.map Bind.row)),.t (.sl (x2.map Rule.row)),.t (.sl (x3.map Form.row)),.ag [.t (.sc (.int .i64 x4.kind)),.t (.sc (.str x4.name)),.t (.sc (.int .i64 x4.n)),.t (.sl (x4.scopes.map rI)),.t (.sl (x4.kids.map Form.row))]] noOb (.tp [.t (.sc (.int .i64 r.1)),.t (.sc (.bool r.2))]) noOb
theorem m_spec_FirstRule_ok (fuel:Nat):m_spec_FirstRule_AC fuel:=by
 intro x1 x2 x3 x4 r F0
 unfold zew at F0
 refine AC_i [.t (.sc (.int .i64 r.1)),.t (.sc (.bool r.2))] Tryz.func84 rfl Tryz.ntmps84 ?_
 intro C hC
 refine zb (za ?_)
 refine za9 ?_
 refine s_as ?_
 refine s_as ?_
 refine zf (zd (zb ?_))
 refine zbj (α:=Nat × Bool) [13,14,15,16,17,18,19,20,21,22,23,24,25,26] [] [] (fun a=>[(26,.t (.sc (.bool a.2)))]) (fun a=>[]) (fun a=>a.1≤fuel∧za5 a.1 x1 x2 x3 x4 a.2=some r) ?_ ?_
 refine za ?_
 refine s_mv ?_
 obtain ⟨v1,V1,F1⟩:=zc F0
 refine zx [] (zgM fuel _ _ V1) ?_
 refine zbq ?_
 refine s_mv ?_
 refine zo _ 16 F1 ?_ ?_<;>intro C2 F2
 iterate 4 refine r_no rfl ?_
 refine zz ?_
 refine s_mv ?_
 iterate 3 refine r_no rfl ?_
 refine zz ?_
 refine zf ?_
 exact s_jn (fuel,true) ⟨by first | omega | (dsimp only;omega),F2⟩
 refine s_mv ?_
 refine s_mv ?_
 obtain ⟨v3,V3,F3⟩:=zc F2
 refine zx [] (zhw fuel _ _ _ V3) ?_
 refine zbq ?_
 refine zB ?_
 refine s_mv ?_
 refine zo _ 22 F3 ?_ ?_<;>intro C4 F4
 iterate 3 refine r_no rfl ?_
 refine zz ?_
 refine zf ?_
 exact s_jn (fuel,true) ⟨by first | omega | (dsimp only;omega),F4⟩
 refine zJ yA27 yS27 ?_
 obtain ⟨v5,V5,F5⟩:=zc F4
 refine zx [] (zaQ fuel _ _ V5) ?_
 refine zbq ?_
 refine zB ?_
 refine zf ?_
 exact s_jn (fuel,(!v5)) ⟨by first | omega | (dsimp only;omega),F5⟩
 clear F0
 rintro ⟨fu,g6⟩ ⟨hl7,F1⟩
 dsimp only at hl7 F1 ⊢
 obtain _ | fu:=fu
 · rw [za5] at F1;cases F1
 rw [za5] at F1
 refine zm F1 ?_ ?_<;>intro C8 F2
 refine zb (za ?_)
 refine s_as ?_
 refine s_as ?_
 refine zf (zd (zh (zg (zn ?_))))
 cases F2
 exact zl [] [] Tryz.results84
 refine zi (zd (zb (zb (za ?_))))
 refine s_as ?_
 refine zf (zd (zk ?_))
 refine zbk (β:=Int) [8,9,10,11,12,27,28,29,30,31,32,33,34,35,36,37,38,39,40,41,42,43,44,45,46] [] [] (fun a=>[(10,.t (.sc (.int .i64 a.2)))]) (fun a=>[]) (fun a=>a.1≤fu∧zbx a.1 x1 x2 x3 x4 a.2=some r∧0≤a.2) (fu,0) ⟨Nat.le_refl _,F2,by simp⟩ ?_
 clear F2
 rintro ⟨fu,g9⟩ ⟨hl10,F3,hn_g9⟩
 dsimp only at hl10 F3 hn_g9 ⊢
 obtain _ | fu:=fu
 · rw [zbx] at F3;cases F3
 rw [zbx] at F3
 refine zb (zb (za ?_))
 refine s_mv ?_
 refine s_mv ?_
 refine zF yU100 ?_
 refine s_lt ?_
 refine zf (zd ?_)
 refine zm F3 ?_ ?_<;>intro C11 F4
 refine zW 1 (fun B12=>?_)
 refine zi (zd (zb (zk (zb ?_))))
 refine z7 yMix (by kernel_rfl) ?_
 iterate 3 refine s_mv ?_
 obtain ⟨v13,V13,F5⟩:=zc F4
 refine zN Rule.row V13 (Rule.row_eq _) yE100 ?_
 refine s_fa yF106_0 ?_
 refine zas yA27 yS27 ?_
 refine s_mv ?_
 refine zJ yA27 yS27 ?_
 obtain ⟨v14,V14,F6⟩:=zc F5
 refine zx [] (zhy fu _ _ _ _ _ V14) ?_
 refine s_mv ?_
 refine zbJ ?_
 refine zbJ ?_
 refine s_as ?_
 refine s_as ?_
 refine zar (by kernel_rfl) ?_
 refine zd (zb (za ?_))
 refine s_mv ?_
 refine zf (zd ?_)
 refine zm F6 ?_ ?_<;>intro C15 F7
 refine zb (za ?_)
 refine s_mv ?_
 refine s_as ?_
 refine s_as ?_
 refine zf (zd (zh (zj (zg (zy (zj (zg (zn ?_))))))))
 cases F7
 exact zl [] [] Tryz.results84
 refine zi (zaa (zd (za ?_)))
 refine s_mv ?_
 refine zO (zaJ C11 B12 hn_g9) ?_
 refine s_as ?_
 refine zf ?_
 exact s_rn (fu,(g9+1)) ⟨by first | omega | (dsimp only;omega),F7,by first | omega | (dsimp only;omega)⟩
 refine zA (zq (zp (zr (zd (zb (za ?_))))))
 refine s_as ?_
 refine s_as ?_
 refine zf (zd (zh (zn ?_)))
 cases F4
 exact zl [] [] Tryz.results84
def zfz (fuel:Nat):Prop:=∀ (o1:zba) (x2:Int) (r:(Form × zba)),zdH fuel o1 x2=some r→AC Tryz.prog 85 [.rf 9000 0,.t (.sc (.int .i64 x2))] (objs [(9000,.box [.t (.sl (o1.b.map rB)),.t (.sc (.int .i64 o1.p))])]) (.ag [.t (.sc (.int .i64 r.1.kind)),.t (.sc (.str r.1.name)),.t (.sc (.int .i64 r.1.n)),.t (.sl (r.1.scopes.map rI)),.t (.sl (r.1.kids.map Form.row))]) (objs [(9000,.box [.t (.sl (r.2.b.map rB)),.t (.sc (.int .i64 r.2.p))])])
theorem m_spec_l1Some_st (fu:Nat) (ih_m_spec_l1Some:∀ k,k≤fu→zfz k):zfz (fu+1):=by
 intro o1 x2 r F0
 rw [zdH] at F0
 refine AC_i [.ag [.t (.sc (.int .i64 r.1.kind)),.t (.sc (.str r.1.name)),.t (.sc (.int .i64 r.1.n)),.t (.sl (r.1.scopes.map rI)),.t (.sl (r.1.kids.map Form.row))]] Tryz.func85 rfl Tryz.ntmps85 ?_
 intro C hC
 refine zb (za ?_)
 refine zR yZ27 ?_
 refine zf (zd (zb (zb (za ?_))))
 refine s_mv ?_
 refine s_eq ?_
 refine s_mv ?_
 refine zo _ 9 F0 ?_ ?_<;>intro C1 F1
 iterate 3 refine r_no rfl ?_
 refine zz ?_
 refine zf (zd (zM rfl (zb (zb (za ?_)))))
 refine s_mv ?_
 obtain ⟨v2,V2,F2⟩:=zc F1
 refine zU [(9000,9000)] [] _ _ (zV fu _ _ _ V2) ?_
 refine s_eq ?_
 refine zf (zd ?_)
 refine zm F2 ?_ ?_<;>intro C3 F3
 refine zb (za ?_)
 refine s_mv ?_
 refine s_bs rI [0,1,2,7,42,999] yP24 yR3 ?_
 obtain ⟨v4,V4,F4⟩:=zc F3
 refine zU [(9000,9000)] [18] _ _ (zbt fu _ _ _ V4) ?_
 refine zeJ yZ27 yL27 ?_
 refine zac yS27 ?_
 refine zf (zd (zh (zg (zg (zn ?_)))))
 cases F4
 exact zI _ [] (by rw [Tryz.results85];exact (zZ (by conv=>lhs;whnf) (by conv=>lhs;whnf) yA27 yS27 rfl zP))
 refine zi (zd (zb (za ?_)))
 refine s_mv ?_
 refine s_bs rS [(⟨#[97]⟩:ByteArray),(⟨#[98]⟩:ByteArray),(⟨#[120]⟩:ByteArray),(⟨#[121]⟩:ByteArray),(⟨#[102]⟩:ByteArray),(⟨#[105,102]⟩:ByteArray),(⟨#[108,101,116]⟩:ByteArray),(⟨#[43]⟩:ByteArray)] yP70 yR9 ?_
 obtain ⟨v5,V5,F4⟩:=zc F3
 refine zU [(9000,9000)] [22] _ _ (zdI fu _ _ _ V5) ?_
 obtain ⟨v6,V6,F5⟩:=zc F4
 refine zx [] (m_spec_l1Name_ok fu _ _ V6) ?_
 refine zac yS27 ?_
 refine zf (zd (zh (zg (zn ?_))))
 cases F5
 exact zI _ [] (by rw [Tryz.results85];exact (zZ (by conv=>lhs;whnf) (by conv=>lhs;whnf) yA27 yS27 rfl zP))
 refine s_mv ?_
 obtain ⟨v7,V7,F2⟩:=zc F1
 refine zU [(9000,9000)] [] _ _ (zV fu _ _ _ V7) ?_
 refine s_eq ?_
 refine zB ?_
 refine zf (zd ?_)
 refine zm F2 ?_ ?_<;>intro C8 F3
 refine zb (zb (za ?_))
 refine s_mv ?_
 obtain ⟨v9,V9,F4⟩:=zc F3
 refine zU [(9000,9000)] [] _ _ (zV fu _ _ _ V9) ?_
 refine s_eq ?_
 refine zf (zd ?_)
 refine zm F4 ?_ ?_<;>intro C10 F5
 refine zb (za ?_)
 refine s_mv ?_
 refine s_bs rI [0,1,2,7,42,999] yP24 yR3 ?_
 obtain ⟨v11,V11,F6⟩:=zc F5
 refine zU [(9000,9000)] [18] _ _ (zbt fu _ _ _ V11) ?_
 refine zeJ yZ27 yL27 ?_
 refine zac yS27 ?_
 refine zf (zd (zh (zg (zg (zn ?_)))))
 cases F6
 exact zI _ [] (by rw [Tryz.results85];exact (zZ (by conv=>lhs;whnf) (by conv=>lhs;whnf) yA27 yS27 rfl zP))
 refine zi (zd (zb (za ?_)))
 refine s_mv ?_
 refine s_bs rS [(⟨#[97]⟩:ByteArray),(⟨#[98]⟩:ByteArray),(⟨#[120]⟩:ByteArray),(⟨#[121]⟩:ByteArray),(⟨#[102]⟩:ByteArray),(⟨#[105,102]⟩:ByteArray),(⟨#[108,101,116]⟩:ByteArray),(⟨#[43]⟩:ByteArray)] yP70 yR9 ?_
 obtain ⟨v12,V12,F6⟩:=zc F5
 refine zU [(9000,9000)] [22] _ _ (zdI fu _ _ _ V12) ?_
 obtain ⟨v13,V13,F7⟩:=zc F6
 refine zx [] (m_spec_l1Name_ok fu _ _ V13) ?_
 refine zac yS27 ?_
 refine zf (zd (zh (zg (zn ?_))))
 cases F7
 exact zI _ [] (by rw [Tryz.results85];exact (zZ (by conv=>lhs;whnf) (by conv=>lhs;whnf) yA27 yS27 rfl zP))
 refine zi (zd (zb (za ?_)))
 refine zeJ yZ27 yL27 ?_
 refine zR yZ27 ?_
 refine zac yS27 ?_
 refine zf (zd (zb (zb (za ?_))))
 refine s_mv ?_
 obtain ⟨v14,V14,F4⟩:=zc F3
 refine zU [(9000,9000)] [] _ _ (zV fu _ _ _ V14) ?_
 refine s_as ?_
 refine zf (zd (zk ?_))
 refine zgZ 5 5020 27 [.t (.sc (.int .i64 3)),.t (.sc (.str (⟨#[]⟩:ByteArray))),.t (.sc (.int .i64 0)),.nl,.ar 5020] yI27.choose_spec ?_
 refine zap [6,28,29,30,31,32,33,34,35,36,37,38,39,40] [5,5020,9000] [38,39] [5020] (fun a:Nat × Int × (List Int) × Int × (List Form)=>a.1) (fun a:Nat × Int × (List Int) × Int × (List Form)=>[(6,.t (.sc (.int .i64 a.2.1)))]) (fun a:Nat × Int × (List Int) × Int × (List Form)=>[(5,.box [.t (.sc (.int .i64 3)),.t (.sc (.str (⟨#[]⟩:ByteArray))),.t (.sc (.int .i64 0)),.nl,.ar 5020]),(5020,.arr (a.2.2.2.2.map Form.row) 27 true),(9000,.box [.t (.sl (a.2.2.1.map rB)),.t (.sc (.int .i64 a.2.2.2.1))])]) (fun a:Nat × Int × (List Int) × Int × (List Form)=>a.1≤fu∧zcu a.1 x2 a.2.1 a.2.2.1 a.2.2.2.1 a.2.2.2.2=some r) (fu,v14.1,v14.2.b,v14.2.p,([]:List Form)) ⟨Nat.le_refl _,F4⟩ (by rfl) (by rfl) (fun _=>rfl) (zG (by conv=>lhs;whnf) (by rfl) za7) (zT (by conv=>lhs;whnf) (by rfl) (zT (by conv=>lhs;whnf) (by rfl) (zT (by conv=>lhs;whnf) (by rfl) zaW))) (zb7 hC rfl) (by repeat (first | exact zai rfl | refine zat rfl ?_ | refine zX rfl ?_)) (by repeat (first | exact zaL | exact zam rfl | refine zau rfl ?_ | refine zY rfl ?_)) ?_
 clear F4
 rintro ⟨fu,g15,g16,g17,g18⟩ ⟨hl19,F5⟩
 dsimp only at hl19 F5 ⊢
 obtain _ | fu:=fu
 · rw [zcu] at F5;cases F5
 rw [zcu] at F5
 refine zb (zb (za ?_))
 refine s_mv ?_
 refine s_gt ?_
 refine zf (zd ?_)
 refine zm F5 ?_ ?_<;>intro C20 F6
 refine zi (zd (zb (zk ?_)))
 refine z7 yMix (by kernel_rfl) ?_
 refine s_fa zH ?_
 refine zu yA25 ?_
 refine zhr ?_
 refine s_mv ?_
 refine zhq rfl ?_
 obtain ⟨v21,V21,F7⟩:=zc F6
 refine zU [(9000,9000)] [] _ _ (ih_m_spec_l1Some fu (by omega) _ _ _ V21) ?_
 refine s_bs Form.row [v21.1] yP25 yR27 ?_
 obtain ⟨hk22,F8⟩:=zab F7
 refine zd4 Form.row (fun y=>Form.row_len y) hk22 yP25 ?_
 refine s_fa zH ?_
 refine zgO yS25 ?_
 refine zar (by kernel_rfl) ?_
 refine zaa (zd (za ?_))
 refine s_mv ?_
 refine zhq rfl ?_
 refine s_as ?_
 refine zf ?_
 exact s_rn (fu,(w64 (g15-1)),v21.2.b,v21.2.p,(g18++[v21.1])) ⟨by first | omega | (dsimp only;omega),F8⟩ [(5020,39)]
 refine zA (zq (zp (zr (zd (zb (za ?_))))))
 refine zJ yA27 yS27 ?_
 refine zac yS27 ?_
 refine zf (zd (zh (zn ?_)))
 cases F6
 exact zI _ [5020] (by rw [Tryz.results85];exact (zZ (by conv=>lhs;whnf) (by conv=>lhs;whnf) yA27 yS27 rfl zP))
theorem m_spec_l1Some_all (fuel:Nat):zfz fuel:=by
 induction fuel using Nat.strongRecOn with
 | _ N ih =>
   cases N with
   | zero=>exact (by intro o1 x2 r h;rw [zdH] at h;cases h)
   | succ fu=>exact m_spec_l1Some_st fu (fun k hk=>(ih k (by omega)))
theorem m_spec_l1Some_ok (fuel:Nat):zfz fuel:=(m_spec_l1Some_all fuel)
def m_spec_l5Hits_AC (fuel:Nat):Prop:=∀ (x1:(List Int)) (r:(Form × (List Hit))),zfX fuel x1=some r→AC Tryz.prog 36 [.t (.sl (x1.map rB))] noOb (.tp [.ag [.t (.sc (.int .i64 r.1.kind)),.t (.sc (.str r.1.name)),.t (.sc (.int .i64 r.1.n)),.t (.sl (r.1.scopes.map rI)),.t (.sl (r.1.kids.map Form.row))],.t (.sl (r.2.map Hit.row))]) noOb
theorem m_spec_l5Hits_ok (fuel:Nat):m_spec_l5Hits_AC fuel:=by
 intro x1 r F0
 unfold zfX at F0
 refine AC_i [.ag [.t (.sc (.int .i64 r.1.kind)),.t (.sc (.str r.1.name)),.t (.sc (.int .i64 r.1.n)),.t (.sl (r.1.scopes.map rI)),.t (.sl (r.1.kids.map Form.row))],.t (.sl (r.2.map Hit.row))] Tryz.func36 rfl Tryz.ntmps36 ?_
 intro C hC
 refine zb (za ?_)
 refine zR yZ27 ?_
 refine s_as ?_
 refine zf (zd (zb (za ?_)))
 refine s_mv ?_
 obtain ⟨v1,V1,F1⟩:=zc F0
 refine zx [] (m_spec_l5Case_ok fuel _ _ V1) ?_
 refine s_mv ?_
 iterate 3 refine zbJ ?_
 refine zR yZ27 ?_
 refine s_as ?_
 refine s_as ?_
 refine zac yS27 ?_
 refine zf (zd (zb (za ?_)))
 refine s_mv ?_
 obtain ⟨v2,V2,F2⟩:=zc F1
 refine zU [(10,20)] [] _ _ (zhB fuel _ _ V2) ?_
 refine s_as ?_
 refine zf (zd (zb (za ?_)))
 refine s_bs Bind.row ([]:List Bind) yP23 yR50 ?_
 refine s_mv ?_
 refine s_mv ?_
 refine zJ yA27 yS27 ?_
 obtain ⟨v3,V3,F3⟩:=zc F2
 refine zx [22] (m_spec_FirstRule_ok fuel _ _ _ _ _ V3) ?_
 refine s_mv ?_
 refine zbJ ?_
 refine zbJ ?_
 refine s_as ?_
 refine s_as ?_
 refine zf (zd (zb (zb (za ?_))))
 refine s_mv ?_
 refine zbq ?_
 refine zf (zd ?_)
 refine zm F3 ?_ ?_<;>intro C4 F4
 refine zb (za ?_)
 refine s_mv ?_
 obtain ⟨v5,V5,F5⟩:=zc F4
 refine zU [(9000,20)] [] _ _ (m_spec_l1Some_ok fuel _ _ _ V5) ?_
 refine s_bs Hit.row ([]:List Hit) yP30 yR38 ?_
 refine zac yS27 ?_
 refine s_as ?_
 refine zf (zd (zh (zg (zn ?_))))
 cases F5
 exact zI [] [33] (by rw [Tryz.results36];exact (zZ (by conv=>lhs;whnf) (by conv=>lhs;whnf) yA27 yS27 rfl (zah (by conv=>lhs;whnf) zP)))
 refine zi (zd (zb ?_))
 refine z7 yMix (by kernel_rfl) ?_
 refine s_bs Bind.row ([]:List Bind) yP23 yR50 ?_
 refine s_mv ?_
 refine s_mv ?_
 obtain ⟨v6,V6,F5⟩:=zc F4
 refine zN Rule.row V6 (Rule.row_eq _) yE100 ?_
 refine s_fa yF106_0 ?_
 refine zas yA27 yS27 ?_
 refine s_mv ?_
 refine zJ yA27 yS27 ?_
 obtain ⟨v7,V7,F6⟩:=zc F5
 refine zU [(9200,2043)] [35] _ _ (m_spec_MatchPattern_ok fuel _ _ _ _ _ V7) ?_
 refine s_mv ?_
 refine zbJ ?_
 refine zbJ ?_
 refine s_as ?_
 refine s_as ?_
 refine zar (by kernel_rfl) ?_
 refine zd (zb (za ?_))
 refine s_mv ?_
 refine s_mv ?_
 obtain ⟨v8,V8,F7⟩:=zc F6
 refine zN Rule.row V8 (Rule.row_eq _) yE100 ?_
 refine s_fa yF106_1 ?_
 refine zas yA27 yS27 ?_
 obtain ⟨v9,V9,F8⟩:=zc F7
 refine zU [(9203,2051),(9204,12051)] [] _ _ (zbW fuel _ _ V9) ?_
 refine zR yZ27 ?_
 refine zac yS27 ?_
 refine zf (zd (zb (zb (za ?_))))
 refine s_mv ?_
 obtain ⟨v10,V10,F9⟩:=zc F8
 refine zU [(9000,20)] [] _ _ (zV fuel _ _ _ V10) ?_
 refine zf (zd (zk (zb (za ?_))))
 refine s_eq ?_
 refine s_as ?_
 refine zf (zd ?_)
 refine zm F9 ?_ ?_<;>intro C11 F10
 refine za ?_
 refine s_mv ?_
 refine s_mv ?_
 refine zJ yA27 yS27 ?_
 obtain ⟨v12,V12,F11⟩:=zc F10
 refine zU [(9000,20)] [2051,12051] _ _ (zcU fuel _ _ _ V12) ?_
 obtain ⟨v13,V13,F12⟩:=zc F11
 refine zU [(9000,20)] [] _ _ (zcU fuel _ _ _ V13) ?_
 refine zac yS27 ?_
 refine zf (zaa (zd (zb (za ?_))))
 refine zJ yA27 yS27 ?_
 refine s_mv ?_
 refine zac yS27 ?_
 refine s_as ?_
 refine zf (zd (zh (zn ?_)))
 cases F12
 exact zI [] [2043] (by rw [Tryz.results36];exact (zZ (by conv=>lhs;whnf) (by conv=>lhs;whnf) yA27 yS27 rfl (zah (by conv=>lhs;whnf) zP)))
 refine zb (za ?_)
 refine s_eq ?_
 refine s_as ?_
 refine zf (zd ?_)
 refine zm F10 ?_ ?_<;>intro C14 F11
 refine za ?_
 refine s_mv ?_
 refine s_bs rS [(⟨#[40,97,32,46,46,46,41]⟩:ByteArray),(⟨#[40,120,32,46,46,46,32,46,46,46,41]⟩:ByteArray),(⟨#[46,46,46]⟩:ByteArray),(⟨#[40,49,32,46,46,46,41]⟩:ByteArray),(⟨#[40,113,32,40,97,32,98,41,32,46,46,46,41]⟩:ByteArray)] yP70 yR9 ?_
 obtain ⟨v15,V15,F12⟩:=zc F11
 refine zU [(9000,20)] [64] _ _ (zdI fuel _ _ _ V15) ?_
 obtain ⟨v16,V16,F13⟩:=zc F12
 refine zx [] (zdX fuel _ _ V16) ?_
 refine zac yS27 ?_
 refine zf (zaa (zd (zb (za ?_))))
 refine zJ yA27 yS27 ?_
 refine s_mv ?_
 refine zac yS27 ?_
 refine s_as ?_
 refine zf (zd (zh (zn ?_)))
 cases F13
 exact zI [] [2043] (by rw [Tryz.results36];exact (zZ (by conv=>lhs;whnf) (by conv=>lhs;whnf) yA27 yS27 rfl (zah (by conv=>lhs;whnf) zP)))
 refine zi (zaa (zd (zb (za ?_))))
 refine zJ yA27 yS27 ?_
 refine s_mv ?_
 refine zac yS27 ?_
 refine s_as ?_
 refine zf (zd (zh (zn ?_)))
 cases F11
 exact zI [] [2051,12051,2043] (by rw [Tryz.results36];exact (zZ (by conv=>lhs;whnf) (by conv=>lhs;whnf) yA27 yS27 rfl (zah (by conv=>lhs;whnf) zP)))
end Go.Abs
