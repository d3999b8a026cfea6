/- A part of the proof: what the functions that the law calls answer, as pure values. -/
import Derived.Test.YtilpcjgklfjdgaaGreatK75e03ecae9fd
import Derived.Test.YtilpcjgklfjdgaaGreatKb8c86019bdb7
import Derived.Test.YtilpcjgklfjdgaaGreatKbeececb3b691
import Derived.Test.YtilpcjgklfjdgaaGreatKf7c7e88234fb
import Derived.Test.YtilpcjgklfjdgaaGreatK349a5dde2cfa
import Derived.Test.YtilpcjgklfjdgaaGreatK8412ad06d820
import Derived.Test.YtilpcjgklfjdgaaGreatKdfd114e1f3bb
import Derived.Test.YtilpcjgklfjdgaaGreatK2772009858f0
import Derived.Test.YtilpcjgklfjdgaaGreatK25b6b0d87810
set_option linter.unusedSimpArgs false
set_option linter.unusedVariables false
set_option maxRecDepth 100000
set_option maxHeartbeats 4000000
namespace Go.Abs
open Go.Proofs
def zgt (fuel:Nat):Prop:=∀ (x1:(List Bind)) (x2:(List Form)) (x3:(List Form)) (x4:(List Form)) (r:((List Hit) × Bool)),zfT fuel x1 x2 x3 x4=some r→AC Tryz.prog 110 [.t (.sl (x1.map Bind.row)),.t (.sl (x2.map Form.row)),.t (.sl (x3.map Form.row)),.t (.sl (x4.map Form.row))] noOb (.tp [.t (.sl (r.1.map Hit.row)),.t (.sc (.bool r.2))]) noOb
def zey (fuel:Nat):Prop:=∀ (x1:(List Bind)) (x2:Form) (x3:(List Form)) (x4:Form) (r:((List Hit) × Bool)),zb2 fuel x1 x2 x3 x4=some r→AC Tryz.prog 55 [.t (.sl (x1.map Bind.row)),.ag [.t (.sc (.int .i64 x2.kind)),.t (.sc (.str x2.name)),.t (.sc (.int .i64 x2.n)),.t (.sl (x2.scopes.map rI)),.t (.sl (x2.kids.map Form.row))],.t (.sl (x3.map Form.row)),.ag [.t (.sc (.int .i64 x4.kind)),.t (.sc (.str x4.name)),.t (.sc (.int .i64 x4.n)),.t (.sl (x4.scopes.map rI)),.t (.sl (x4.kids.map Form.row))]] noOb (.tp [.t (.sl (r.1.map Hit.row)),.t (.sc (.bool r.2))]) noOb
theorem m_spec_l4List_st (fu:Nat) (ih_m_spec_l4List:∀ k,k≤fu→zgt k) (ih_m_spec_l4Match:∀ k,k≤fu→zey k):zgt (fu+1):=by
 intro x1 x2 x3 x4 r F0
 rw [zfT] at F0
 refine AC_i [.t (.sl (r.1.map Hit.row)),.t (.sc (.bool r.2))] Tryz.func110 rfl Tryz.ntmps110 ?_
 intro C hC
 refine zb (za ?_)
 refine s_as ?_
 refine s_as ?_
 refine zf (zd (zb (za ?_)))
 refine s_bs Hit.row ([]:List Hit) yP42 yR48 ?_
 refine s_as ?_
 refine zf (zd (zb (za ?_)))
 refine s_as ?_
 refine zf (zd ?_)
 refine zbb (α:=Nat × Int) [11,12,22,23,24,25,26,27,28,29,30,31,32,33,34,35] [] [] (fun a=>[(11,.t (.sc (.int .i64 a.2)))]) (fun a=>[]) (fun a=>a.1≤fu∧zd4 a.1 x1 x2 x3 x4 a.2=some r) ?_ ?_
 refine zb (za ?_)
 refine s_as ?_
 refine zf (zd (zl ?_))
 refine zaK (β:=Int × Int) [11,12,22,23,24,25,26,27,28,29,30,31,32,33,34,35] [] [] (fun a=>[(11,.t (.sc (.int .i64 a.2.1))),(12,.t (.sc (.int .i64 a.2.2)))]) (fun a=>[]) (fun a=>a.1≤fu∧zbm a.1 x1 x2 x3 x4 a.2.1 a.2.2=some r) (fu,(-1),0) ⟨Nat.le_refl _,F0⟩ ?_
 clear F0
 rintro ⟨fu,g1,g2⟩ ⟨hl3,F1⟩
 dsimp only at hl3 F1 ⊢
 obtain _ | fu:=fu
 · rw [zbm] at F1;cases F1
 rw [zbm] at F1
 refine zb (zb (za ?_))
 refine s_mv ?_
 refine zJ rfl ?_
 refine s_mv ?_
 refine zC yU24 ?_
 refine s_lt ?_
 refine zf (zd ?_)
 refine zm F1 ?_ ?_<;>intro C4 F2
 refine zi (zd (zb (zl (zb (za ?_)))))
 refine s_mv ?_
 refine s_mv ?_
 refine zJ rfl ?_
 obtain ⟨v5,V5,F3⟩:=zc F2
 refine zK Form.row V5 (Form.row_eq _) yE24 ?_
 refine zam yA32 yS32 ?_
 obtain ⟨v6,V6,F4⟩:=zc F3
 refine zv [] (zaN fu _ _ V6) ?_
 refine zf (zd ?_)
 refine zm F4 ?_ ?_<;>intro C7 F5
 refine za ?_
 refine s_mv ?_
 refine s_as ?_
 refine zf (zW (zd (za ?_)))
 refine s_mv ?_
 refine zJ rfl ?_
 refine s_as ?_
 refine zf ?_
 exact s_rn (fu,g2,(w64 (g2+1))) ⟨by first | omega | (dsimp only;omega),F5⟩
 refine zi (zW (zd (za ?_)))
 refine s_mv ?_
 refine zJ rfl ?_
 refine s_as ?_
 refine zf ?_
 exact s_rn (fu,g1,(w64 (g2+1))) ⟨by first | omega | (dsimp only;omega),F5⟩
 refine zy (zq (zo (zr ?_)))
 exact s_jn (fu,g1) ⟨by first | omega | (dsimp only;omega),F2⟩
 clear F0
 rintro ⟨fu,g8⟩ ⟨hl9,F1⟩
 dsimp only at hl9 F1 ⊢
 obtain _ | fu:=fu
 · rw [zd4] at F1;cases F1
 rw [zd4] at F1
 refine zbb (α:=Nat) [8,9,36,37,38,39,40,41,42,43,44,45,46,47,48,49,50,51,52,53,54,55,56,57] [] [] (fun a=>[]) (fun a=>[]) (fun a=>a≤fu∧zb9 a x1 x2 x3 x4 g8 =some r) ?_ ?_
 refine zb (za ?_)
 refine s_mv ?_
 refine s_lt ?_
 refine s_mv ?_
 refine zp _ 38 F1 ?_ ?_<;>intro C10 F2
 refine s_mv ?_
 refine zC yU24 ?_
 refine s_mv ?_
 refine zC yU24 ?_
 refine s_ne ?_
 refine zA ?_
 refine s_mv ?_
 refine zp _ 45 F2 ?_ ?_<;>intro C11 F3
 iterate 10 refine r_no rfl ?_
 refine zA ?_
 refine zf (zd (zT rfl (zb (za ?_))))
 refine s_mv ?_
 refine s_as ?_
 refine s_as ?_
 refine zf (zd (zh (zew (zn ?_))))
 cases F3
 exact zk [] [21] Tryz.results110
 refine s_mv ?_
 refine s_ge ?_
 refine s_mv ?_
 refine zp _ 48 F3 ?_ ?_<;>intro C12 F4
 refine s_mv ?_
 refine zC yU24 ?_
 refine s_mv ?_
 refine zC yU24 ?_
 refine zh9 rfl ?_
 refine s_lt ?_
 refine zA ?_
 refine zz ?_
 refine zf (zd ?_)
 refine zm F4 ?_ ?_<;>intro C13 F5
 refine zb (za ?_)
 refine s_mv ?_
 refine s_as ?_
 refine s_as ?_
 refine zf (zd (zh (zew (zn ?_))))
 cases F5
 exact zk [] [21] Tryz.results110
 refine zi ?_
 exact s_jn (fu) ⟨by first | omega | (dsimp only;omega),F5⟩
 iterate 6 refine r_no rfl ?_
 refine zz ?_
 refine zz ?_
 refine zf (zd (zaX rfl (zi ?_)))
 exact s_jn (fu) ⟨by first | omega | (dsimp only;omega),F4⟩
 iterate 5 refine r_no rfl ?_
 refine zz ?_
 refine s_mv ?_
 refine s_mv ?_
 refine s_ge ?_
 refine s_mv ?_
 refine zp _ 48 F2 ?_ ?_<;>intro C14 F3
 refine s_mv ?_
 refine zC yU24 ?_
 refine s_mv ?_
 refine zC yU24 ?_
 refine zh9 rfl ?_
 refine s_lt ?_
 refine zA ?_
 refine zz ?_
 refine zf (zd ?_)
 refine zm F3 ?_ ?_<;>intro C15 F4
 refine zb (za ?_)
 refine s_mv ?_
 refine s_as ?_
 refine s_as ?_
 refine zf (zd (zh (zew (zn ?_))))
 cases F4
 exact zk [] [21] Tryz.results110
 refine zi ?_
 exact s_jn (fu) ⟨by first | omega | (dsimp only;omega),F4⟩
 iterate 6 refine r_no rfl ?_
 refine zz ?_
 refine zz ?_
 refine zf (zd (zaX rfl (zi ?_)))
 exact s_jn (fu) ⟨by first | omega | (dsimp only;omega),F3⟩
 clear F1
 rintro fu ⟨hl16,F2⟩
 obtain _ | fu:=fu
 · rw [zb9] at F2;cases F2
 rw [zb9] at F2
 refine zb (za ?_)
 refine s_as ?_
 refine zf (zd (zb (zb (za ?_))))
 refine s_as ?_
 refine zf (zd (zl ?_))
 refine zcZ 10 21 5080 (by conv=>lhs;whnf) (by conv=>lhs;whnf) rfl ?_
 refine zal [8,9,10,13,14,15,16,17,18,19,20,58,59,60,61,62,63,64,65,66,67,68,69,70,71,72,73,74,75,76,77,78,79,80,81,82,83,84,85,86,87,88,89,90,91,92,93,94,95,96,97,98,99,100,101,102,103,104,105,106,107,108,109,110,111,112,113,114,115,116,117,118,119,120,121,122,123,124,125,126,127,128,129,130,131,132,133,134,135,136] [5080] [91,94,136,5120] [5080] (fun a:Nat × Int × (List Hit) × Int=>a.1) (fun a:Nat × Int × (List Hit) × Int=>[(10,.ar 5080),(13,.t (.sc (.int .i64 a.2.2.2))),(14,.t (.sc (.int .i64 a.2.1)))]) (fun a:Nat × Int × (List Hit) × Int=>[(5080,.arr (a.2.2.1.map Hit.row) 48 true)]) (fun a:Nat × Int × (List Hit) × Int=>a.1≤fu∧zbP a.1 x1 x2 x3 x4 g8 a.2.1 a.2.2.1 a.2.2.2=some r∧0≤a.2.1) (fu,0,([]:List Hit),0) ⟨Nat.le_refl _,F2,by simp⟩ (by rfl) (by rfl) (fun _=>rfl) (zH (by conv=>lhs;whnf) (by rfl) (zH (by conv=>lhs;whnf) (by rfl) (zH (by conv=>lhs;whnf) (by rfl) zaV))) (zL (by conv=>lhs;whnf) (by rfl) zaG) (zbM hC rfl) (by repeat (first | exact z6 rfl | refine zaj rfl ?_ | refine zP rfl ?_)) (by repeat (first | exact zax | exact z9 rfl | refine zak rfl ?_ | refine zQ rfl ?_)) ?_
 clear F2
 rintro ⟨fu,g17,g18,g19⟩ ⟨hl20,F3,hn_g17⟩
 dsimp only at hl20 F3 hn_g17 ⊢
 obtain _ | fu:=fu
 · rw [zbP] at F3;cases F3
 rw [zbP] at F3
 refine zb (zb (za ?_))
 refine s_mv ?_
 refine s_mv ?_
 refine zC yU24 ?_
 refine s_lt ?_
 refine zf (zd ?_)
 refine zm F3 ?_ ?_<;>intro C21 F4
 refine zM 1 (fun B22=>?_)
 refine zi (zd (zb (zl (zb (zb (za ?_))))))
 refine s_mv ?_
 refine s_mv ?_
 obtain ⟨v23,V23,F5⟩:=zc F4
 refine zK Form.row V23 (Form.row_eq _) yE24 ?_
 refine zam yA32 yS32 ?_
 obtain ⟨v24,V24,F6⟩:=zc F5
 refine zv [] (zaN fu _ _ V24) ?_
 refine zf (zd ?_)
 refine zm F6 ?_ ?_<;>intro C25 F7
 refine zy (zq (zr (zd (za ?_))))
 refine s_mv ?_
 refine zJ (zas C21 B22 hn_g17) ?_
 refine s_as ?_
 refine zf ?_
 exact s_rn (fu,(g17+1),g18,g19) ⟨by first | omega | (dsimp only;omega),F7,by first | omega | (dsimp only;omega)⟩
 refine zi (zd (zb (zb (za ?_))))
 refine s_mv ?_
 refine s_mv ?_
 refine s_ne ?_
 refine zf (zd ?_)
 refine zm F7 ?_ ?_<;>intro C26 F8
 refine zb ?_
 refine zO yMix (by kernel_rfl) ?_
 iterate 3 refine s_mv ?_
 obtain ⟨v27,V27,F9⟩:=zc F8
 refine zK Form.row V27 (Form.row_eq _) yE24 ?_
 refine zam yA32 yS32 ?_
 iterate 3 refine s_mv ?_
 obtain ⟨v28,V28,F10⟩:=zc F9
 refine zK Form.row V28 (Form.row_eq _) yE24 ?_
 refine zam yA32 yS32 ?_
 obtain ⟨v29,V29,F11⟩:=zc F10
 refine zv [] (ih_m_spec_l4Match fu (by omega) _ _ _ _ _ V29) ?_
 refine s_mv ?_
 refine zbf ?_
 refine zbf ?_
 refine s_as ?_
 refine s_as ?_
 refine zae (by kernel_rfl) ?_
 refine zd (zb (zb (za ?_)))
 refine s_mv ?_
 refine zaY ?_
 refine zf (zd ?_)
 refine zm F11 ?_ ?_<;>intro C30 F12
 refine zb (za ?_)
 refine s_mv ?_
 refine s_as ?_
 refine s_as ?_
 refine zf (zd (zh (zg (zg (zj (zg (zw (zj (zg (zn ?_))))))))))
 cases F12
 exact zk [] [5080] Tryz.results110
 refine zi (zd (zb (za ?_)))
 refine s_mv ?_
 refine s_mv ?_
 obtain ⟨hk31,F13⟩:=zad F12
 refine zek Hit.row (fun y=>Hit.row_len y) hk31 yP42 ?_
 refine s_as ?_
 refine zf (zd (zb (za ?_)))
 refine s_mv ?_
 refine zJ rfl ?_
 refine s_as ?_
 refine zf (zd (zy (zq (zr (zd (za ?_))))))
 refine s_mv ?_
 refine zJ (zas C21 B22 hn_g17) ?_
 refine s_as ?_
 refine zf ?_
 exact s_rn (fu,(g17+1),(g18++v29.1),(w64 (g19+1))) ⟨by first | omega | (dsimp only;omega),F13,by first | omega | (dsimp only;omega)⟩ [(5080,91)]
 refine zi (zd (zb (za ?_)))
 refine s_bs (rL Hit.row) ([]:List (List Hit)) yP142 yR42 ?_
 refine s_as ?_
 refine zf (zd ?_)
 refine zbb (α:=Nat × Int × (List (List Hit))) [8,9,13,17,18,19,20,95,96,97,98,99,100,101,102,103,104,105,106,107,108,109,110,111,112,113,114,115,116,117,118,119,120,121,122,123,124,125,126,127] [94,5120] [] (fun a=>[(13,.t (.sc (.int .i64 a.2.1))),(17,.ar 5120)]) (fun a=>[(94,.dead),(5120,.arr (a.2.2.map (rL Hit.row)) 42 true)]) (fun a=>a.1≤fu∧zd3 a.1 x1 x2 x3 x4 g8 g17 g18 a.2.1 a.2.2=some r) ?_ ?_
 refine zb (za ?_)
 refine s_mv ?_
 refine zC yU24 ?_
 refine s_mv ?_
 refine zC yU24 ?_
 refine zh9 rfl ?_
 refine zh9 rfl ?_
 refine s_as ?_
 refine zf (zd (zl ?_))
 refine zcZ 17 94 5120 (by conv=>lhs;whnf) (by conv=>lhs;whnf) rfl ?_
 refine zal [8,9,13,17,18,19,20,101,102,103,104,105,106,107,108,109,110,111,112,113,114,115,116,117,118,119,120,121,122,123,124,125,126,127] [5120] [124,125] [5120] (fun a:Nat × Int × (List (List Hit)) × Int=>a.1) (fun a:Nat × Int × (List (List Hit)) × Int=>[(13,.t (.sc (.int .i64 a.2.1))),(17,.ar 5120),(18,.t (.sc (.int .i64 a.2.2.2)))]) (fun a:Nat × Int × (List (List Hit)) × Int=>[(5120,.arr (a.2.2.1.map (rL Hit.row)) 42 true)]) (fun a:Nat × Int × (List (List Hit)) × Int=>a.1≤fu∧zcF a.1 x1 x2 x3 x4 g8 g17 g18 a.2.1 a.2.2.1 a.2.2.2=some r) (fu,g19,([]:List (List Hit)),(w64 ((x4.length:Int)-(w64 ((x2.length:Int)-2))))) ⟨Nat.le_refl _,F8⟩ (by rfl) (by rfl) (fun _=>rfl) (zH (by conv=>lhs;whnf) (by rfl) (zH (by conv=>lhs;whnf) (by rfl) (zH (by conv=>lhs;whnf) (by rfl) zaV))) (zL (by conv=>lhs;whnf) (by rfl) zaG) (zbM hC rfl) (by repeat (first | exact z6 rfl | refine zaj rfl ?_ | refine zP rfl ?_)) (by repeat (first | exact zax | exact z9 rfl | refine zak rfl ?_ | refine zQ rfl ?_)) ?_
 clear F8
 rintro ⟨fu,g32,g33,g34⟩ ⟨hl35,F9⟩
 dsimp only at hl35 F9 ⊢
 obtain _ | fu:=fu
 · rw [zcF] at F9;cases F9
 rw [zcF] at F9
 refine zb (zb (za ?_))
 refine s_mv ?_
 refine s_gt ?_
 refine zf (zd ?_)
 refine zm F9 ?_ ?_<;>intro C36 F10
 refine zi (zd (zb (zl (zb ?_))))
 refine zO yMix (by kernel_rfl) ?_
 iterate 3 refine s_mv ?_
 obtain ⟨v37,V37,F11⟩:=zc F10
 refine zK Form.row V37 (Form.row_eq _) yE24 ?_
 refine zam yA32 yS32 ?_
 iterate 3 refine s_mv ?_
 obtain ⟨v38,V38,F12⟩:=zc F11
 refine zK Form.row V38 (Form.row_eq _) yE24 ?_
 refine zam yA32 yS32 ?_
 obtain ⟨v39,V39,F13⟩:=zc F12
 refine zv [] (ih_m_spec_l4Match fu (by omega) _ _ _ _ _ V39) ?_
 refine s_mv ?_
 refine zbf ?_
 refine zbf ?_
 refine s_as ?_
 refine s_as ?_
 refine zae (by kernel_rfl) ?_
 refine zd (zb (zb (za ?_)))
 refine s_mv ?_
 refine zaY ?_
 refine zf (zd ?_)
 refine zm F13 ?_ ?_<;>intro C40 F14
 refine zb (za ?_)
 refine s_mv ?_
 refine s_as ?_
 refine s_as ?_
 refine zf (zd (zh (zg (zj (zg (zw (zj (zew (zj (zg (zw (zj (zg (zn ?_))))))))))))))
 cases F14
 exact zk [] [5080] Tryz.results110
 refine zi (zd (zb (za ?_)))
 refine s_mv ?_
 refine s_mv ?_
 refine s_bs (rL Hit.row) [v39.1] yP142 yR42 ?_
 obtain ⟨hk41,F15⟩:=zad F14
 refine zek (rL Hit.row) (fun _=>rfl) hk41 yP142 ?_
 refine s_as ?_
 refine zf (zd (za ?_))
 refine s_mv ?_
 refine zJ rfl ?_
 refine s_as ?_
 refine zf (zW (zd (za ?_)))
 refine s_mv ?_
 refine zh9 rfl ?_
 refine s_as ?_
 refine zf ?_
 exact s_rn (fu,(w64 (g32+1)),(g33++[v39.1]),(w64 (g34-1))) ⟨by first | omega | (dsimp only;omega),F15⟩ [(5120,125)]
 refine zy (zq (zo (zr ?_)))
 exact s_jn (fu,g32,g33) ⟨by first | omega | (dsimp only;omega),F10⟩
 clear F8
 rintro ⟨fu,g42,g43⟩ ⟨hl44,F9⟩
 dsimp only at hl44 F9 ⊢
 obtain _ | fu:=fu
 · rw [zd3] at F9;cases F9
 rw [zd3] at F9
 refine za ?_
 iterate 3 refine s_mv ?_
 obtain ⟨v45,V45,F10⟩:=zc F9
 refine zK Form.row V45 (Form.row_eq _) yE24 ?_
 refine zam yA32 yS32 ?_
 refine s_mv ?_
 refine s_mv ?_
 obtain ⟨v46,V46,F11⟩:=zc F10
 refine zv [5120] (m_spec_l4Row_ok fu _ _ _ _ V46) ?_
 obtain ⟨hk47,F12⟩:=zad F11
 refine zek Hit.row (fun y=>Hit.row_len y) hk47 yP42 ?_
 refine s_as ?_
 refine zf (zW (zd (za ?_)))
 refine s_mv ?_
 refine zJ (zas C21 B22 hn_g17) ?_
 refine s_as ?_
 refine zf ?_
 exact s_rn (fu,(g17+1),(g18++v46),g42) ⟨by first | omega | (dsimp only;omega),F12,by first | omega | (dsimp only;omega)⟩ [(5080,136)]
 refine zy (zq (zo (zr (zd (zb (za ?_))))))
 refine s_mv ?_
 refine s_as ?_
 refine s_as ?_
 refine zf (zd (zh (zn ?_)))
 cases F4
 exact zk [] [5080] Tryz.results110
theorem m_spec_l4Match_st (fu:Nat) (ih_m_spec_l4List:∀ k,k≤fu→zgt k) (ih_m_spec_l4Match:∀ k,k≤fu→zey k):zey (fu+1):=by
 intro x1 x2 x3 x4 r F0
 rw [zb2] at F0
 refine AC_i [.t (.sl (r.1.map Hit.row)),.t (.sc (.bool r.2))] Tryz.func55 rfl Tryz.ntmps55 ?_
 intro C hC
 refine zb (za ?_)
 refine zaL ?_
 refine zaL ?_
 refine s_as ?_
 refine s_as ?_
 refine zf (zd (zb (za ?_)))
 refine s_bs Hit.row ([]:List Hit) yP42 yR48 ?_
 refine s_as ?_
 refine zf (zd (zb (zb (za ?_))))
 refine s_fa zcY ?_
 refine zu yA3 ?_
 refine s_eq ?_
 refine zf (zd ?_)
 refine zm F0 ?_ ?_<;>intro C1 F1
 refine zb (zb (za ?_))
 refine s_fa zcm ?_
 refine zu yA9 ?_
 refine zhr ?_
 refine zf (zd ?_)
 refine zm F1 ?_ ?_<;>intro C2 F2
 refine zb (za ?_)
 refine s_mv ?_
 refine s_as ?_
 refine s_as ?_
 refine zf (zd (zh (zg (zg (zn ?_)))))
 cases F2
 exact zk [] [11] Tryz.results55
 refine zi (zd (zb (zb (za ?_))))
 refine s_mv ?_
 refine zI yA32 yS32 ?_
 obtain ⟨v3,V3,F3⟩:=zc F2
 refine zv [] (zhl fu _ _ _ V3) ?_
 refine zf (zd ?_)
 refine zm F3 ?_ ?_<;>intro C4 F4
 refine zbb (α:=Nat × Bool) [8,9,22,23,24,25,26,27,28,29,30,31] [] [] (fun a=>[(8,.ar 11),(9,.t (.sc (.bool a.2)))]) (fun a=>[]) (fun a=>a.1≤fu∧zcN a.1  a.2=some r) ?_ ?_
 refine za ?_
 refine s_mv ?_
 refine s_fa zcY ?_
 refine zu yA3 ?_
 refine s_eq ?_
 refine s_mv ?_
 refine zp _ 26 F4 ?_ ?_<;>intro C5 F5
 refine s_mv ?_
 refine zI yA32 yS32 ?_
 refine zI yA32 yS32 ?_
 obtain ⟨v6,V6,F6⟩:=zc F5
 refine zv [] (m_spec_l3Same_ok fu _ _ _ _ V6) ?_
 refine zA ?_
 refine s_as ?_
 refine s_as ?_
 refine zf ?_
 exact s_jn (fu,v6) ⟨by first | omega | (dsimp only;omega),F6⟩
 iterate 4 refine r_no rfl ?_
 refine zz ?_
 refine s_as ?_
 refine s_as ?_
 refine zf ?_
 exact s_jn (fu,false) ⟨by first | omega | (dsimp only;omega),F5⟩
 clear F4
 rintro ⟨fu,g7⟩ ⟨hl8,F5⟩
 dsimp only at hl8 F5 ⊢
 obtain _ | fu:=fu
 · rw [zcN] at F5;cases F5
 rw [zcN] at F5
 refine zh (zg (zg (zn ?_)))
 cases F5
 exact zk [] [11] Tryz.results55
 refine zi (zd (zb (za ?_)))
 refine s_mv ?_
 refine zI yA32 yS32 ?_
 refine zI yA32 yS32 ?_
 refine zgD yZ48 yL48 ?_
 refine s_bs Hit.row [(Hit.mk x2 0 x4 ([]:List Hit))] yP42 yR48 ?_
 obtain ⟨hk9,F5⟩:=zad F4
 refine zek Hit.row (fun y=>Hit.row_len y) hk9 yP42 ?_
 refine s_as ?_
 refine s_as ?_
 refine zf (zd (zh (zg (zn ?_))))
 cases F5
 exact zk [] [37] Tryz.results55
 refine zi (zd (zb (zb (za ?_))))
 refine s_fa zcY ?_
 refine zu yA3 ?_
 refine s_eq ?_
 refine zf (zd ?_)
 refine zm F1 ?_ ?_<;>intro C10 F2
 refine zb (za ?_)
 refine s_mv ?_
 refine zI yA32 yS32 ?_
 refine zI yA32 yS32 ?_
 obtain ⟨v11,V11,F3⟩:=zc F2
 refine zv [] (zft fu _ _ _ V11) ?_
 refine s_as ?_
 refine s_as ?_
 refine zf (zd (zh (zg (zn ?_))))
 cases F3
 exact zk [] [11] Tryz.results55
 refine zi (zd (zb (zb (za ?_))))
 refine s_fa zcY ?_
 refine zu yA3 ?_
 refine s_ne ?_
 refine zf (zd ?_)
 refine zm F2 ?_ ?_<;>intro C12 F3
 refine zb (za ?_)
 refine s_mv ?_
 refine s_as ?_
 refine s_as ?_
 refine zf (zd (zh (zg (zn ?_))))
 cases F3
 exact zk [] [11] Tryz.results55
 refine zi (zd (zb (za ?_)))
 refine s_mv ?_
 refine s_fa zF ?_
 refine zu yA24 ?_
 refine s_mv ?_
 refine s_fa zF ?_
 refine zu yA24 ?_
 obtain ⟨v13,V13,F4⟩:=zc F3
 refine zv [] (ih_m_spec_l4List fu (by omega) _ _ _ _ _ V13) ?_
 refine zbf ?_
 refine zbf ?_
 refine s_as ?_
 refine s_as ?_
 refine zf (zd (zh (zn ?_)))
 cases F4
 exact zk [] [] Tryz.results55
theorem m_spec_l4List_all (fuel:Nat):zgt fuel∧zey fuel:=by
 induction fuel using Nat.strongRecOn with
 | _ N ih =>
   cases N with
   | zero=>exact ⟨(by intro x1 x2 x3 x4 r h;rw [zfT] at h;cases h),(by intro x1 x2 x3 x4 r h;rw [zb2] at h;cases h)⟩
   | succ fu=>exact ⟨m_spec_l4List_st fu (fun k hk=>(ih k (by omega)).1) (fun k hk=>(ih k (by omega)).2),m_spec_l4Match_st fu (fun k hk=>(ih k (by omega)).1) (fun k hk=>(ih k (by omega)).2)⟩
theorem ziD (fuel:Nat):zey fuel:=(m_spec_l4List_all fuel).2
def m_spec_FirstRule_AC (fuel:Nat):Prop:=∀ (x1:(List Bind)) (x2:(List Rule)) (x3:(List Form)) (x4:Form) (r:(Int × Bool)),zfa fuel x1 x2 x3 x4=some r→AC Tryz.prog 54 [.t (.sl (x1.map Bind.row)),.t (.sl (x2.map Rule.row)),.t (.sl (x3.map Form.row)),.ag [.t (.sc (.int .i64 x4.kind)),.t (.sc (.str x4.name)),.t (.sc (.int .i64 x4.n)),.t (.sl (x4.scopes.map rI)),.t (.sl (x4.kids.map Form.row))]] noOb (.tp [.t (.sc (.int .i64 r.1)),.t (.sc (.bool r.2))]) noOb
theorem m_spec_FirstRule_ok (fuel:Nat):m_spec_FirstRule_AC fuel:=by
 intro x1 x2 x3 x4 r F0
 unfold zfa at F0
 refine AC_i [.t (.sc (.int .i64 r.1)),.t (.sc (.bool r.2))] Tryz.func54 rfl Tryz.ntmps54 ?_
 intro C hC
 refine zb (za ?_)
 refine zaL ?_
 refine s_as ?_
 refine s_as ?_
 refine zf (zd (zb ?_))
 refine zbb (α:=Nat × Bool) [13,14,15,16,17,18,19,20,21,22,23,24,25,26] [] [] (fun a=>[(26,.t (.sc (.bool a.2)))]) (fun a=>[]) (fun a=>a.1≤fuel∧zbj a.1 x1 x2 x3 x4 a.2=some r) ?_ ?_
 refine za ?_
 refine s_mv ?_
 obtain ⟨v1,V1,F1⟩:=zc F0
 refine zv [] (m_spec_BindsValid_ok fuel _ _ V1) ?_
 refine zaY ?_
 refine s_mv ?_
 refine zp _ 16 F1 ?_ ?_<;>intro C2 F2
 iterate 4 refine r_no rfl ?_
 refine zA ?_
 refine s_mv ?_
 iterate 3 refine r_no rfl ?_
 refine zA ?_
 refine zf ?_
 exact s_jn (fuel,true) ⟨by first | omega | (dsimp only;omega),F2⟩
 refine s_mv ?_
 refine s_mv ?_
 obtain ⟨v3,V3,F3⟩:=zc F2
 refine zv [] (ziB fuel _ _ _ V3) ?_
 refine zaY ?_
 refine zz ?_
 refine s_mv ?_
 refine zp _ 22 F3 ?_ ?_<;>intro C4 F4
 iterate 3 refine r_no rfl ?_
 refine zA ?_
 refine zf ?_
 exact s_jn (fuel,true) ⟨by first | omega | (dsimp only;omega),F4⟩
 refine zI yA32 yS32 ?_
 obtain ⟨v5,V5,F5⟩:=zc F4
 refine zv [] (zcd fuel _ _ V5) ?_
 refine zaY ?_
 refine zz ?_
 refine zf ?_
 exact s_jn (fuel,(!v5)) ⟨by first | omega | (dsimp only;omega),F5⟩
 clear F0
 rintro ⟨fu,g6⟩ ⟨hl7,F1⟩
 dsimp only at hl7 F1 ⊢
 obtain _ | fu:=fu
 · rw [zbj] at F1;cases F1
 rw [zbj] at F1
 refine zm F1 ?_ ?_<;>intro C8 F2
 refine zb (za ?_)
 refine s_as ?_
 refine s_as ?_
 refine zf (zd (zh (zg (zn ?_))))
 cases F2
 exact zk [] [] Tryz.results54
 refine zi (zd (zb (zb (za ?_))))
 refine s_as ?_
 refine zf (zd (zl ?_))
 refine zaK (β:=Int) [8,9,10,11,12,27,28,29,30,31,32,33,34,35,36,37,38,39,40,41,42,43,44,45,46] [] [] (fun a=>[(10,.t (.sc (.int .i64 a.2)))]) (fun a=>[]) (fun a=>a.1≤fu∧zce a.1 x1 x2 x3 x4 a.2=some r∧0≤a.2) (fu,0) ⟨Nat.le_refl _,F2,by simp⟩ ?_
 clear F2
 rintro ⟨fu,g9⟩ ⟨hl10,F3,hn_g9⟩
 dsimp only at hl10 F3 hn_g9 ⊢
 obtain _ | fu:=fu
 · rw [zce] at F3;cases F3
 rw [zce] at F3
 refine zb (zb (za ?_))
 refine s_mv ?_
 refine s_mv ?_
 refine zC yU23 ?_
 refine s_lt ?_
 refine zf (zd ?_)
 refine zm F3 ?_ ?_<;>intro C11 F4
 refine zM 1 (fun B12=>?_)
 refine zi (zd (zb (zl (zb ?_))))
 refine zO yMix (by kernel_rfl) ?_
 iterate 3 refine s_mv ?_
 obtain ⟨v13,V13,F5⟩:=zc F4
 refine zK Rule.row V13 (Rule.row_eq _) yE23 ?_
 refine s_fa zic ?_
 refine zam yA32 yS32 ?_
 refine s_mv ?_
 refine zI yA32 yS32 ?_
 obtain ⟨v14,V14,F6⟩:=zc F5
 refine zv [] (ziD fu _ _ _ _ _ V14) ?_
 refine s_mv ?_
 refine zbf ?_
 refine zbf ?_
 refine s_as ?_
 refine s_as ?_
 refine zae (by kernel_rfl) ?_
 refine zd (zb (za ?_))
 refine s_mv ?_
 refine zf (zd ?_)
 refine zm F6 ?_ ?_<;>intro C15 F7
 refine zb (za ?_)
 refine s_mv ?_
 refine s_as ?_
 refine s_as ?_
 refine zf (zd (zh (zj (zg (zw (zj (zg (zn ?_))))))))
 cases F7
 exact zk [] [] Tryz.results54
 refine zi (zW (zd (za ?_)))
 refine s_mv ?_
 refine zJ (zas C11 B12 hn_g9) ?_
 refine s_as ?_
 refine zf ?_
 exact s_rn (fu,(g9+1)) ⟨by first | omega | (dsimp only;omega),F7,by first | omega | (dsimp only;omega)⟩
 refine zy (zq (zo (zr (zd (zb (za ?_))))))
 refine s_as ?_
 refine s_as ?_
 refine zf (zd (zh (zn ?_)))
 cases F4
 exact zk [] [] Tryz.results54
def m_impl_hitVars_AC (fuel:Nat):Prop:=∀ (x1:(List Hit)) (r:((List Form) × (List Int))),zgk fuel x1=some r→AC Tryz.prog 87 [.t (.sl (x1.map Hit.row))] noOb (.tp [.t (.sl (r.1.map Form.row)),.t (.sl (r.2.map rI))]) noOb
theorem m_impl_hitVars_ok (fuel:Nat):m_impl_hitVars_AC fuel:=by
 intro x1 r F0
 unfold zgk at F0
 refine AC_i [.t (.sl (r.1.map Form.row)),.t (.sl (r.2.map rI))] Tryz.func87 rfl Tryz.ntmps87 ?_
 intro C hC
 refine zb (za ?_)
 refine s_as ?_
 refine s_as ?_
 refine zf (zd (zb (za ?_)))
 refine s_bs Form.row ([]:List Form) yP24 yR32 ?_
 refine s_bs rI ([]:List Int) yP27 yR3 ?_
 refine s_as ?_
 refine s_as ?_
 refine zf (zd (zb (zb (za ?_))))
 refine s_mv ?_
 refine zC yU42 ?_
 refine s_mv ?_
 refine zf (zd (zl ?_))
 refine zcZ 4 8 5020 (by conv=>lhs;whnf) (by conv=>lhs;whnf) rfl ?_
 refine zcZ 5 9 5021 (by conv=>lhs;whnf) (by conv=>lhs;whnf) rfl ?_
 refine zal [4,5,7,12,13,14,15,16,17,18,19,20,21,22,23,24,25,26] [5020,5021] [7,19,20,24,25] [5020,5021] (fun a:Nat × (List Form) × (List Int) × Int=>a.1) (fun a:Nat × (List Form) × (List Int) × Int=>[(4,.ar 5020),(5,.ar 5021),(12,.t (.sc (.int .i64 a.2.2.2)))]) (fun a:Nat × (List Form) × (List Int) × Int=>[(5020,.arr (a.2.1.map Form.row) 32 true),(5021,.arr (a.2.2.1.map rI) 3 true)]) (fun a:Nat × (List Form) × (List Int) × Int=>a.1≤fuel∧zck a.1 x1 a.2.1 a.2.2.1 a.2.2.2=some r∧0≤a.2.2.2) (fuel,([]:List Form),([]:List Int),0) ⟨Nat.le_refl _,F0,by simp⟩ (by rfl) (by rfl) (fun _=>rfl) (zH (by conv=>lhs;whnf) (by rfl) (zH (by conv=>lhs;whnf) (by rfl) (zH (by conv=>lhs;whnf) (by rfl) zaV))) (zL (by conv=>lhs;whnf) (by rfl) (zL (by conv=>lhs;whnf) (by rfl) zaG)) (zbM hC rfl) (by repeat (first | exact z6 rfl | refine zaj rfl ?_ | refine zP rfl ?_)) (by repeat (first | exact zax | exact z9 rfl | refine zak rfl ?_ | refine zQ rfl ?_)) ?_
 clear F0
 rintro ⟨fu,g1,g2,g3⟩ ⟨hl4,F1,hn_g3⟩
 dsimp only at hl4 F1 hn_g3 ⊢
 obtain _ | fu:=fu
 · rw [zck] at F1;cases F1
 rw [zck] at F1
 refine zb (za ?_)
 refine s_lt ?_
 refine zf (zd (zb ?_))
 refine zm F1 ?_ ?_<;>intro C5 F2
 refine zM 0 (fun B6=>?_)
 refine zi (zd (zb (zl (zb (za ?_)))))
 obtain ⟨v7,V7,F3⟩:=zc F2
 refine zK Hit.row V7 (Hit.row_eq _) yE42 ?_
 refine zam yA48 yS48 ?_
 refine zU yZ48 ?_
 refine zac yS48 ?_
 refine zf (zd ?_)
 refine zO yMix (by kernel_rfl) ?_
 refine s_mv ?_
 refine s_fa zix ?_
 refine zam yA32 yS32 ?_
 refine s_bs Form.row [v7.name] yP24 yR32 ?_
 obtain ⟨hk8,F4⟩:=zad F3
 refine zek Form.row (fun y=>Form.row_len y) hk8 yP24 ?_
 refine s_mv ?_
 refine s_fa zhU ?_
 refine zu yA3 ?_
 refine s_bs rI [v7.depth] yP27 yR3 ?_
 obtain ⟨hk9,F5⟩:=zad F4
 refine zek rI (fun _=>rfl) hk9 yP27 ?_
 refine s_as ?_
 refine s_as ?_
 refine zae (by kernel_rfl) ?_
 refine zW (zd (za ?_))
 refine zJ (zas C5 B6 hn_g3) ?_
 refine s_mv ?_
 refine zf ?_
 exact s_rn (fu,(g1++[v7.name]),(g2++[v7.depth]),(g3+1)) ⟨by first | omega | (dsimp only;omega),F5,by first | omega | (dsimp only;omega)⟩ [(5020,20),(5021,25)]
 refine zy (zq (zo (zr (zd (zb (za ?_))))))
 refine s_mv ?_
 refine s_mv ?_
 refine s_as ?_
 refine s_as ?_
 refine zf (zd (zh (zn ?_)))
 cases F2
 exact zk [] [5020,5021] Tryz.results87
def m_strings_IndexByte_AC (fuel:Nat):Prop:=∀ (x1:ByteArray) (x2:Int) (r:Int),zeI fuel x1 x2=some r→AC Tryz.prog 146 [.t (.sc (.str x1)),.t (.sc (.int .u8 x2))] noOb (.t (.sc (.int .i64 r))) noOb
theorem zg9 (fuel:Nat):m_strings_IndexByte_AC fuel:=by
 intro x1 x2 r h
 obtain rfl:=Option.some.inj h
 exact ac_two (a:=.str x1) (b:=.int .u8 x2) (r:=.int .i64 _) ⟨_,Tryz.func146,by kernel_rfl,by kernel_rfl⟩ (fun w=>Tryz.strings_IndexByte x1 x2 w)
def m_impl_within_AC (fuel:Nat):Prop:=∀ (x1:Int) (x2:Int) (x3:Int) (r:Bool),zdB fuel x1 x2 x3=some r→AC Tryz.prog 101 [.t (.sc (.int .i64 x1)),.t (.sc (.int .i64 x2)),.t (.sc (.int .i64 x3))] noOb (.t (.sc (.bool r))) noOb
theorem zfd (fuel:Nat):m_impl_within_AC fuel:=by
 intro x1 x2 x3 r F0
 unfold zdB at F0
 refine AC_i [.t (.sc (.bool r))] Tryz.func101 rfl Tryz.ntmps101 ?_
 intro C hC
 refine zb (za ?_)
 refine s_as ?_
 refine zf (zd (zb (za ?_)))
 refine s_mv ?_
 refine s_mv ?_
 refine s_ge ?_
 refine s_mv ?_
 refine zp _ 10 F0 ?_ ?_<;>intro C1 F1
 refine s_mv ?_
 refine s_mv ?_
 refine s_le ?_
 refine zA ?_
 refine s_as ?_
 refine zf (zd (zh (zn ?_)))
 cases F1
 exact zk [] [] Tryz.results101
 iterate 3 refine r_no rfl ?_
 refine zz ?_
 refine s_as ?_
 refine zf (zd (zh (zn ?_)))
 cases F1
 exact zk [] [] Tryz.results101
def m_impl_NameValid_AC (fuel:Nat):Prop:=∀ (x1:ByteArray) (r:Bool),zea fuel x1=some r→AC Tryz.prog 111 [.t (.sc (.str x1))] noOb (.t (.sc (.bool r))) noOb
theorem zh2 (fuel:Nat):m_impl_NameValid_AC fuel:=by
 intro x1 r F0
 unfold zea at F0
 refine AC_i [.t (.sc (.bool r))] Tryz.func111 rfl Tryz.ntmps111 ?_
 intro C hC
 refine zb (za ?_)
 refine s_as ?_
 refine zf (zd (zb (zb (za ?_))))
 refine s_mv ?_
 refine zhr ?_
 refine s_mv ?_
 refine zp _ 7 F0 ?_ ?_<;>intro C1 F1
 refine r_no rfl (r_no rfl ?_)
 refine zA ?_
 refine zf (zd (zT rfl (zb (za ?_))))
 refine s_as ?_
 refine zf (zd (zh (zg (zn ?_))))
 cases F1
 exact zk [] [] Tryz.results111
 refine s_mv ?_
 refine zhr ?_
 refine zz ?_
 refine zf (zd ?_)
 refine zm F1 ?_ ?_<;>intro C2 F2
 refine zb (za ?_)
 refine s_as ?_
 refine zf (zd (zh (zg (zn ?_))))
 cases F2
 exact zk [] [] Tryz.results111
 refine zi (zd (zb (zb (za ?_))))
 refine s_as ?_
 refine zf (zd (zl ?_))
 refine zaK (β:=Int) [2,3,4,11,12,13,14,15,16,17,18,19,20,21,22,23,24,25,26,27,28,29,30,31,32,33,34,35,36,37,38,39,40,41,42,43,44,45,46] [] [] (fun a=>[(3,.t (.sc (.int .i64 a.2)))]) (fun a=>[]) (fun a=>a.1≤fuel∧z7 a.1 x1 a.2=some r) (fuel,0) ⟨Nat.le_refl _,F2⟩ ?_
 clear F2
 rintro ⟨fu,g3⟩ ⟨hl4,F3⟩
 dsimp only at hl4 F3 ⊢
 obtain _ | fu:=fu
 · rw [z7] at F3;cases F3
 rw [z7] at F3
 refine zb (zb (za ?_))
 refine s_mv ?_
 refine s_mv ?_
 refine zfD yU9 ?_
 refine s_lt ?_
 refine zf (zd ?_)
 refine zm F3 ?_ ?_<;>intro C5 F4
 refine zi (zd (zb (zl (zb (za ?_)))))
 refine s_mv ?_
 refine s_mv ?_
 obtain ⟨v6,V6,F5⟩:=zc F4
 refine s_ixS V6 yU9 ?_
 refine s_as ?_
 refine zf (zd (zl (zb (za ?_))))
 refine s_mv ?_
 refine s_ge ?_
 refine s_mv ?_
 refine zp _ 23 F5 ?_ ?_<;>intro C7 F6
 refine s_mv ?_
 refine s_le ?_
 refine zA ?_
 refine s_mv ?_
 refine zp _ 27 F6 ?_ ?_<;>intro C8 F7
 iterate 3 refine r_no rfl ?_
 refine zA ?_
 refine s_as ?_
 refine zf (zd (zT rfl (zi (zW (zW (zd (za ?_)))))))
 refine s_mv ?_
 refine zJ rfl ?_
 refine s_as ?_
 refine zf ?_
 exact s_rn (fu,(w64 (g3+1))) ⟨by first | omega | (dsimp only;omega),F7⟩
 refine s_mv ?_
 obtain ⟨v9,V9,F8⟩:=zc F7
 refine zv [] (zg9 fu _ _ _ V9) ?_
 refine s_ge ?_
 refine zz ?_
 refine s_as ?_
 refine zf (zd ?_)
 refine zm F8 ?_ ?_<;>intro C10 F9
 refine zi (zW (zW (zd (za ?_))))
 refine s_mv ?_
 refine zJ rfl ?_
 refine s_as ?_
 refine zf ?_
 exact s_rn (fu,(w64 (g3+1))) ⟨by first | omega | (dsimp only;omega),F9⟩
 refine zb (za ?_)
 refine s_mv ?_
 refine s_gt ?_
 refine s_mv ?_
 refine zp _ 35 F9 ?_ ?_<;>intro C11 F10
 refine s_mv ?_
 refine s_ge ?_
 refine s_mv ?_
 refine zp _ 38 F10 ?_ ?_<;>intro C12 F11
 refine s_mv ?_
 refine s_le ?_
 refine zA ?_
 refine s_mv ?_
 refine zp _ 42 F11 ?_ ?_<;>intro C13 F12
 refine r_no rfl (r_no rfl ?_)
 refine zA ?_
 refine zA ?_
 refine s_as ?_
 refine zf (zd (zT rfl (zi (zW (zW (zd (za ?_)))))))
 refine s_mv ?_
 refine zJ rfl ?_
 refine s_as ?_
 refine zf ?_
 exact s_rn (fu,(w64 (g3+1))) ⟨by first | omega | (dsimp only;omega),F12⟩
 refine s_mv ?_
 refine s_eq ?_
 refine zz ?_
 refine zA ?_
 refine s_as ?_
 refine zf (zd ?_)
 refine zm F12 ?_ ?_<;>intro C14 F13
 refine zi (zW (zW (zd (za ?_))))
 refine s_mv ?_
 refine zJ rfl ?_
 refine s_as ?_
 refine zf ?_
 exact s_rn (fu,(w64 (g3+1))) ⟨by first | omega | (dsimp only;omega),F13⟩
 refine zb (za ?_)
 refine s_as ?_
 refine zf (zd (zh (zj (zj (zg (zw (zj (zg (zn ?_)))))))))
 cases F13
 exact zk [] [] Tryz.results111
 refine r_no rfl (r_no rfl ?_)
 refine zz ?_
 refine s_mv ?_
 refine s_mv ?_
 refine s_eq ?_
 refine zz ?_
 refine zA ?_
 refine s_as ?_
 refine zf (zd ?_)
 refine zm F11 ?_ ?_<;>intro C15 F12
 refine zi (zW (zW (zd (za ?_))))
 refine s_mv ?_
 refine zJ rfl ?_
 refine s_as ?_
 refine zf ?_
 exact s_rn (fu,(w64 (g3+1))) ⟨by first | omega | (dsimp only;omega),F12⟩
 refine zb (za ?_)
 refine s_as ?_
 refine zf (zd (zh (zj (zj (zg (zw (zj (zg (zn ?_)))))))))
 cases F12
 exact zk [] [] Tryz.results111
 iterate 10 refine r_no rfl ?_
 refine zz ?_
 refine s_as ?_
 refine zf (zd (zaX rfl (zb (za ?_))))
 refine s_as ?_
 refine zf (zd (zh (zj (zj (zg (zw (zj (zg (zn ?_)))))))))
 cases F10
 exact zk [] [] Tryz.results111
 refine r_no rfl (r_no rfl ?_)
 refine zz ?_
 refine s_mv ?_
 refine s_mv ?_
 obtain ⟨v16,V16,F7⟩:=zc F6
 refine zv [] (zg9 fu _ _ _ V16) ?_
 refine s_ge ?_
 refine zz ?_
 refine s_as ?_
 refine zf (zd ?_)
 refine zm F7 ?_ ?_<;>intro C17 F8
 refine zi (zW (zW (zd (za ?_))))
 refine s_mv ?_
 refine zJ rfl ?_
 refine s_as ?_
 refine zf ?_
 exact s_rn (fu,(w64 (g3+1))) ⟨by first | omega | (dsimp only;omega),F8⟩
 refine zb (za ?_)
 refine s_mv ?_
 refine s_gt ?_
 refine s_mv ?_
 refine zp _ 35 F8 ?_ ?_<;>intro C18 F9
 refine s_mv ?_
 refine s_ge ?_
 refine s_mv ?_
 refine zp _ 38 F9 ?_ ?_<;>intro C19 F10
 refine s_mv ?_
 refine s_le ?_
 refine zA ?_
 refine s_mv ?_
 refine zp _ 42 F10 ?_ ?_<;>intro C20 F11
 refine r_no rfl (r_no rfl ?_)
 refine zA ?_
 refine zA ?_
 refine s_as ?_
 refine zf (zd (zT rfl (zi (zW (zW (zd (za ?_)))))))
 refine s_mv ?_
 refine zJ rfl ?_
 refine s_as ?_
 refine zf ?_
 exact s_rn (fu,(w64 (g3+1))) ⟨by first | omega | (dsimp only;omega),F11⟩
 refine s_mv ?_
 refine s_eq ?_
 refine zz ?_
 refine zA ?_
 refine s_as ?_
 refine zf (zd ?_)
 refine zm F11 ?_ ?_<;>intro C21 F12
 refine zi (zW (zW (zd (za ?_))))
 refine s_mv ?_
 refine zJ rfl ?_
 refine s_as ?_
 refine zf ?_
 exact s_rn (fu,(w64 (g3+1))) ⟨by first | omega | (dsimp only;omega),F12⟩
 refine zb (za ?_)
 refine s_as ?_
 refine zf (zd (zh (zj (zj (zg (zw (zj (zg (zn ?_)))))))))
 cases F12
 exact zk [] [] Tryz.results111
 refine r_no rfl (r_no rfl ?_)
 refine zz ?_
 refine s_mv ?_
 refine s_mv ?_
 refine s_eq ?_
 refine zz ?_
 refine zA ?_
 refine s_as ?_
 refine zf (zd ?_)
 refine zm F10 ?_ ?_<;>intro C22 F11
 refine zi (zW (zW (zd (za ?_))))
 refine s_mv ?_
 refine zJ rfl ?_
 refine s_as ?_
 refine zf ?_
 exact s_rn (fu,(w64 (g3+1))) ⟨by first | omega | (dsimp only;omega),F11⟩
 refine zb (za ?_)
 refine s_as ?_
 refine zf (zd (zh (zj (zj (zg (zw (zj (zg (zn ?_)))))))))
 cases F11
 exact zk [] [] Tryz.results111
 iterate 10 refine r_no rfl ?_
 refine zz ?_
 refine s_as ?_
 refine zf (zd (zaX rfl (zb (za ?_))))
 refine s_as ?_
 refine zf (zd (zh (zj (zj (zg (zw (zj (zg (zn ?_)))))))))
 cases F9
 exact zk [] [] Tryz.results111
 refine zy (zq (zo (zr (zd (zb (za ?_))))))
 refine s_mv ?_
 refine zfD yU9 ?_
 obtain ⟨v23,V23,F5⟩:=zc F4
 refine zv [] (zfd fu _ _ _ _ V23) ?_
 refine s_as ?_
 refine zf (zd (zh (zn ?_)))
 cases F5
 exact zk [] [] Tryz.results111
def m_impl_scopesOk_AC (fuel:Nat):Prop:=∀ (x1:(List Int)) (r:Bool),zeC fuel x1=some r→AC Tryz.prog 112 [.t (.sl (x1.map rI))] noOb (.t (.sc (.bool r))) noOb
theorem zik (fuel:Nat):m_impl_scopesOk_AC fuel:=by
 intro x1 r F0
 unfold zeC at F0
 refine AC_i [.t (.sc (.bool r))] Tryz.func112 rfl Tryz.ntmps112 ?_
 intro C hC
 refine zb (za ?_)
 refine s_as ?_
 refine zf (zd (zb (zb (za ?_))))
 refine s_mv ?_
 refine zC yU27 ?_
 refine s_mv ?_
 refine zf (zd (zl ?_))
 refine zaK (β:=Int) [2,3,4,7,8,9,10,11,12,13,14,15,16,17,18,19,20,21,22,23,24,25,26,27,28] [] [] (fun a=>[(7,.t (.sc (.int .i64 a.2)))]) (fun a=>[]) (fun a=>a.1≤fuel∧zbG a.1 x1 a.2=some r∧0≤a.2) (fuel,0) ⟨Nat.le_refl _,F0,by simp⟩ ?_
 clear F0
 rintro ⟨fu,g1⟩ ⟨hl2,F1,hn_g1⟩
 dsimp only at hl2 F1 hn_g1 ⊢
 obtain _ | fu:=fu
 · rw [zbG] at F1;cases F1
 rw [zbG] at F1
 refine zb (za ?_)
 refine s_lt ?_
 refine zf (zd (zb ?_))
 refine zm F1 ?_ ?_<;>intro C3 F2
 refine zM 0 (fun B4=>?_)
 refine zi (zd (zb (zl (zb (za ?_)))))
 refine s_mv ?_
 obtain ⟨v5,V5,F3⟩:=zc F2
 refine zK rI V5 rfl yE27 ?_
 refine zu yA3 ?_
 refine s_as ?_
 refine s_as ?_
 refine zf (zd (zb (za ?_)))
 refine s_mv ?_
 obtain ⟨v6,V6,F4⟩:=zc F3
 refine zv [] (zfd fu _ _ _ _ V6) ?_
 refine zaY ?_
 refine s_mv ?_
 refine zp _ 15 F4 ?_ ?_<;>intro C7 F5
 iterate 11 refine r_no rfl ?_
 refine zA ?_
 refine zf (zd (zT rfl (zb (za ?_))))
 refine s_as ?_
 refine zf (zd (zh (zj (zg (zw (zj (zg (zn ?_))))))))
 cases F5
 exact zk [] [] Tryz.results112
 refine s_mv ?_
 refine s_gt ?_
 refine s_mv ?_
 refine zp _ 18 F5 ?_ ?_<;>intro C8 F6
 refine s_mv ?_
 refine s_mv ?_
 refine zh9 rfl ?_
 obtain ⟨v9,V9,F7⟩:=zc F6
 refine zK rI V9 rfl yE27 ?_
 refine zu yA3 ?_
 refine s_mv ?_
 refine s_ge ?_
 refine zA ?_
 refine zz ?_
 refine zf (zd ?_)
 refine zm F7 ?_ ?_<;>intro C10 F8
 refine zb (za ?_)
 refine s_as ?_
 refine zf (zd (zh (zj (zg (zw (zj (zg (zn ?_))))))))
 cases F8
 exact zk [] [] Tryz.results112
 refine zi (zW (zd (za ?_)))
 refine zJ (zas C3 B4 hn_g1) ?_
 refine s_mv ?_
 refine zf ?_
 exact s_rn (fu,(g1+1)) ⟨by first | omega | (dsimp only;omega),F8,by first | omega | (dsimp only;omega)⟩
 iterate 7 refine r_no rfl ?_
 refine zz ?_
 refine zz ?_
 refine zf (zd (zaX rfl (zi (zW (zd (za ?_))))))
 refine zJ (zas C3 B4 hn_g1) ?_
 refine s_mv ?_
 refine zf ?_
 exact s_rn (fu,(g1+1)) ⟨by first | omega | (dsimp only;omega),F6,by first | omega | (dsimp only;omega)⟩
 refine zy (zq (zo (zr (zd (zb (za ?_))))))
 refine s_mv ?_
 refine zC yU27 ?_
 refine s_le ?_
 refine s_as ?_
 refine zf (zd (zh (zn ?_)))
 cases F2
 exact zk [] [] Tryz.results112
end Go.Abs
