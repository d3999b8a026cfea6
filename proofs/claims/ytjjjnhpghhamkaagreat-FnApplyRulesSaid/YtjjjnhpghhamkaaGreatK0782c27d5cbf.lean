/- A part of the proof: what the functions that the law calls answer, as pure values. -/
import Derived.Test.YtjjjnhpghhamkaaGreatKc0fe836f7e33
import Derived.Test.YtjjjnhpghhamkaaGreatK8d582f2e31e6
import Derived.Test.YtjjjnhpghhamkaaGreatK135f79d6a7aa
import Derived.Test.YtjjjnhpghhamkaaGreatK23e9ef529b2a
import Derived.Test.YtjjjnhpghhamkaaGreatK4ee70f842008
import Derived.Test.YtjjjnhpghhamkaaGreatK06634278733b
import Derived.Test.YtjjjnhpghhamkaaGreatK8faf616840a9
import Derived.Test.YtjjjnhpghhamkaaGreatKfe938720da0d
set_option linter.unusedSimpArgs false
set_option linter.unusedVariables false
set_option maxRecDepth 100000
set_option maxHeartbeats 4000000
namespace Go.Abs
open Go.Proofs
def zgv (fuel:Nat):Prop:=∀ (x1:(List Bind)) (x2:(List Form)) (x3:(List Form)) (x4:(List Form)) (r:((List Hit) × Bool)),zfX fuel x1 x2 x3 x4=some r→AC Tryz.prog 137 [.t (.sl (x1.map Bind.row)),.t (.sl (x2.map Form.row)),.t (.sl (x3.map Form.row)),.t (.sl (x4.map Form.row))] noOb (.tp [.t (.sl (r.1.map Hit.row)),.t (.sc (.bool r.2))]) noOb
def zez (fuel:Nat):Prop:=∀ (x1:(List Bind)) (x2:Form) (x3:(List Form)) (x4:Form) (r:((List Hit) × Bool)),zb4 fuel x1 x2 x3 x4=some r→AC Tryz.prog 65 [.t (.sl (x1.map Bind.row)),.ag [.t (.sc (.int .i64 x2.kind)),.t (.sc (.str x2.name)),.t (.sc (.int .i64 x2.n)),.t (.sl (x2.scopes.map rI)),.t (.sl (x2.kids.map Form.row))],.t (.sl (x3.map Form.row)),.ag [.t (.sc (.int .i64 x4.kind)),.t (.sc (.str x4.name)),.t (.sc (.int .i64 x4.n)),.t (.sl (x4.scopes.map rI)),.t (.sl (x4.kids.map Form.row))]] noOb (.tp [.t (.sl (r.1.map Hit.row)),.t (.sc (.bool r.2))]) noOb
theorem m_spec_l4List_st (fu:Nat) (ih_m_spec_l4List:∀ k,k≤fu→zgv k) (ih_m_spec_l4Match:∀ k,k≤fu→zez k):zgv (fu+1):=by
 intro x1 x2 x3 x4 r F0
 rw [zfX] at F0
 refine AC_i [.t (.sl (r.1.map Hit.row)),.t (.sc (.bool r.2))] Tryz.func137 rfl Tryz.ntmps137 ?_
 intro C hC
 refine zb (za ?_)
 refine s_as ?_
 refine s_as ?_
 refine zf (zd (zb (za ?_)))
 refine s_bs Hit.row ([]:List Hit) yP30 yR40 ?_
 refine s_as ?_
 refine zf (zd (zb (za ?_)))
 refine s_as ?_
 refine zf (zd ?_)
 refine za2 (α:=Nat × Int) [11,12,22,23,24,25,26,27,28,29,30,31,32,33,34,35] [] [] (fun a=>[(11,.t (.sc (.int .i64 a.2)))]) (fun a=>[]) (fun a=>a.1≤fu∧zd3 a.1 x1 x2 x3 x4 a.2=some r) ?_ ?_
 refine zb (za ?_)
 refine s_as ?_
 refine zf (zd (zl ?_))
 refine zaP (β:=Int × Int) [11,12,22,23,24,25,26,27,28,29,30,31,32,33,34,35] [] [] (fun a=>[(11,.t (.sc (.int .i64 a.2.1))),(12,.t (.sc (.int .i64 a.2.2)))]) (fun a=>[]) (fun a=>a.1≤fu∧zbp a.1 x1 x2 x3 x4 a.2.1 a.2.2=some r) (fu,(-1),0) ⟨Nat.le_refl _,F0⟩ ?_
 clear F0
 rintro ⟨fu,g1,g2⟩ ⟨hl3,F1⟩
 dsimp only at hl3 F1 ⊢
 obtain _ | fu:=fu
 · rw [zbp] at F1;cases F1
 rw [zbp] at F1
 refine zb (zb (za ?_))
 refine s_mv ?_
 refine zJ rfl ?_
 refine s_mv ?_
 refine zC yU25 ?_
 refine s_lt ?_
 refine zf (zd ?_)
 refine zm F1 ?_ ?_<;>intro C4 F2
 refine zi (zd (zb (zl (zb (za ?_)))))
 refine s_mv ?_
 refine s_mv ?_
 refine zJ rfl ?_
 obtain ⟨v5,V5,F3⟩:=zc F2
 refine zK Form.row V5 (Form.row_eq _) yE25 ?_
 refine zai yA27 yS27 ?_
 obtain ⟨v6,V6,F4⟩:=zc F3
 refine zv [] (zaR fu _ _ V6) ?_
 refine zf (zd ?_)
 refine zm F4 ?_ ?_<;>intro C7 F5
 refine za ?_
 refine s_mv ?_
 refine s_as ?_
 refine zf (zW (zd (za ?_)))
 refine s_mv ?_
 refine zJ rfl ?_
 refine s_as ?_
 refine zf ?_
 exact s_rn (fu,g2,(w64 (g2+1))) ⟨by first | omega | (dsimp only;omega),F5⟩
 refine zi (zW (zd (za ?_)))
 refine s_mv ?_
 refine zJ rfl ?_
 refine s_as ?_
 refine zf ?_
 exact s_rn (fu,g1,(w64 (g2+1))) ⟨by first | omega | (dsimp only;omega),F5⟩
 refine zz (zq (zp (zr ?_)))
 exact s_jn (fu,g1) ⟨by first | omega | (dsimp only;omega),F2⟩
 clear F0
 rintro ⟨fu,g8⟩ ⟨hl9,F1⟩
 dsimp only at hl9 F1 ⊢
 obtain _ | fu:=fu
 · rw [zd3] at F1;cases F1
 rw [zd3] at F1
 refine za2 (α:=Nat) [8,9,36,37,38,39,40,41,42,43,44,45,46,47,48,49,50,51,52,53,54,55,56,57] [] [] (fun a=>[]) (fun a=>[]) (fun a=>a≤fu∧zcb a x1 x2 x3 x4 g8 =some r) ?_ ?_
 refine zb (za ?_)
 refine s_mv ?_
 refine s_lt ?_
 refine s_mv ?_
 refine zo _ 38 F1 ?_ ?_<;>intro C10 F2
 refine s_mv ?_
 refine zC yU25 ?_
 refine s_mv ?_
 refine zC yU25 ?_
 refine s_ne ?_
 refine zA ?_
 refine s_mv ?_
 refine zo _ 45 F2 ?_ ?_<;>intro C11 F3
 iterate 10 refine r_no rfl ?_
 refine zA ?_
 refine zf (zd (zT rfl (zb (za ?_))))
 refine s_mv ?_
 refine s_as ?_
 refine s_as ?_
 refine zf (zd (zh (zex (zn ?_))))
 cases F3
 exact zk [] [21] Tryz.results137
 refine s_mv ?_
 refine s_ge ?_
 refine s_mv ?_
 refine zo _ 48 F3 ?_ ?_<;>intro C12 F4
 refine s_mv ?_
 refine zC yU25 ?_
 refine s_mv ?_
 refine zC yU25 ?_
 refine zih rfl ?_
 refine s_lt ?_
 refine zA ?_
 refine zy ?_
 refine zf (zd ?_)
 refine zm F4 ?_ ?_<;>intro C13 F5
 refine zb (za ?_)
 refine s_mv ?_
 refine s_as ?_
 refine s_as ?_
 refine zf (zd (zh (zex (zn ?_))))
 cases F5
 exact zk [] [21] Tryz.results137
 refine zi ?_
 exact s_jn (fu) ⟨by first | omega | (dsimp only;omega),F5⟩
 iterate 6 refine r_no rfl ?_
 refine zy ?_
 refine zy ?_
 refine zf (zd (zaZ rfl (zi ?_)))
 exact s_jn (fu) ⟨by first | omega | (dsimp only;omega),F4⟩
 iterate 5 refine r_no rfl ?_
 refine zy ?_
 refine s_mv ?_
 refine s_mv ?_
 refine s_ge ?_
 refine s_mv ?_
 refine zo _ 48 F2 ?_ ?_<;>intro C14 F3
 refine s_mv ?_
 refine zC yU25 ?_
 refine s_mv ?_
 refine zC yU25 ?_
 refine zih rfl ?_
 refine s_lt ?_
 refine zA ?_
 refine zy ?_
 refine zf (zd ?_)
 refine zm F3 ?_ ?_<;>intro C15 F4
 refine zb (za ?_)
 refine s_mv ?_
 refine s_as ?_
 refine s_as ?_
 refine zf (zd (zh (zex (zn ?_))))
 cases F4
 exact zk [] [21] Tryz.results137
 refine zi ?_
 exact s_jn (fu) ⟨by first | omega | (dsimp only;omega),F4⟩
 iterate 6 refine r_no rfl ?_
 refine zy ?_
 refine zy ?_
 refine zf (zd (zaZ rfl (zi ?_)))
 exact s_jn (fu) ⟨by first | omega | (dsimp only;omega),F3⟩
 clear F1
 rintro fu ⟨hl16,F2⟩
 obtain _ | fu:=fu
 · rw [zcb] at F2;cases F2
 rw [zcb] at F2
 refine zb (za ?_)
 refine s_as ?_
 refine zf (zd (zb (zb (za ?_))))
 refine s_as ?_
 refine zf (zd (zl ?_))
 refine zeI 10 21 5080 (by conv=>lhs;whnf) (by conv=>lhs;whnf) rfl ?_
 refine zak [8,9,10,13,14,15,16,17,18,19,20,58,59,60,61,62,63,64,65,66,67,68,69,70,71,72,73,74,75,76,77,78,79,80,81,82,83,84,85,86,87,88,89,90,91,92,93,94,95,96,97,98,99,100,101,102,103,104,105,106,107,108,109,110,111,112,113,114,115,116,117,118,119,120,121,122,123,124,125,126,127,128,129,130,131,132,133,134,135,136] [5080] [91,94,136,5120] [5080] (fun a:Nat × Int × (List Hit) × Int=>a.1) (fun a:Nat × Int × (List Hit) × Int=>[(10,.ar 5080),(13,.t (.sc (.int .i64 a.2.2.2))),(14,.t (.sc (.int .i64 a.2.1)))]) (fun a:Nat × Int × (List Hit) × Int=>[(5080,.arr (a.2.2.1.map Hit.row) 40 true)]) (fun a:Nat × Int × (List Hit) × Int=>a.1≤fu∧zbS a.1 x1 x2 x3 x4 g8 a.2.1 a.2.2.1 a.2.2.2=some r∧0≤a.2.1) (fu,0,([]:List Hit),0) ⟨Nat.le_refl _,F2,by simp⟩ (by rfl) (by rfl) (fun _=>rfl) (zI (by conv=>lhs;whnf) (by rfl) (zI (by conv=>lhs;whnf) (by rfl) (zI (by conv=>lhs;whnf) (by rfl) zaX))) (zL (by conv=>lhs;whnf) (by rfl) zaK) (zbZ hC rfl) (by repeat (first | exact z6 rfl | refine zal rfl ?_ | refine zQ rfl ?_)) (by repeat (first | exact zay | exact zad rfl | refine zam rfl ?_ | refine zR rfl ?_)) ?_
 clear F2
 rintro ⟨fu,g17,g18,g19⟩ ⟨hl20,F3,hn_g17⟩
 dsimp only at hl20 F3 hn_g17 ⊢
 obtain _ | fu:=fu
 · rw [zbS] at F3;cases F3
 rw [zbS] at F3
 refine zb (zb (za ?_))
 refine s_mv ?_
 refine s_mv ?_
 refine zC yU25 ?_
 refine s_lt ?_
 refine zf (zd ?_)
 refine zm F3 ?_ ?_<;>intro C21 F4
 refine zM 1 (fun B22=>?_)
 refine zi (zd (zb (zl (zb (zb (za ?_))))))
 refine s_mv ?_
 refine s_mv ?_
 obtain ⟨v23,V23,F5⟩:=zc F4
 refine zK Form.row V23 (Form.row_eq _) yE25 ?_
 refine zai yA27 yS27 ?_
 obtain ⟨v24,V24,F6⟩:=zc F5
 refine zv [] (zaR fu _ _ V24) ?_
 refine zf (zd ?_)
 refine zm F6 ?_ ?_<;>intro C25 F7
 refine zz (zq (zr (zd (za ?_))))
 refine s_mv ?_
 refine zJ (zar C21 B22 hn_g17) ?_
 refine s_as ?_
 refine zf ?_
 exact s_rn (fu,(g17+1),g18,g19) ⟨by first | omega | (dsimp only;omega),F7,by first | omega | (dsimp only;omega)⟩
 refine zi (zd (zb (zb (za ?_))))
 refine s_mv ?_
 refine s_mv ?_
 refine s_ne ?_
 refine zf (zd ?_)
 refine zm F7 ?_ ?_<;>intro C26 F8
 refine zb ?_
 refine zP yMix (by kernel_rfl) ?_
 iterate 3 refine s_mv ?_
 obtain ⟨v27,V27,F9⟩:=zc F8
 refine zK Form.row V27 (Form.row_eq _) yE25 ?_
 refine zai yA27 yS27 ?_
 iterate 3 refine s_mv ?_
 obtain ⟨v28,V28,F10⟩:=zc F9
 refine zK Form.row V28 (Form.row_eq _) yE25 ?_
 refine zai yA27 yS27 ?_
 obtain ⟨v29,V29,F11⟩:=zc F10
 refine zv [] (ih_m_spec_l4Match fu (by omega) _ _ _ _ _ V29) ?_
 refine s_mv ?_
 refine za4 ?_
 refine za4 ?_
 refine s_as ?_
 refine s_as ?_
 refine zah (by kernel_rfl) ?_
 refine zd (zb (zb (za ?_)))
 refine s_mv ?_
 refine zaG ?_
 refine zf (zd ?_)
 refine zm F11 ?_ ?_<;>intro C30 F12
 refine zb (za ?_)
 refine s_mv ?_
 refine s_as ?_
 refine s_as ?_
 refine zf (zd (zh (zg (zg (zj (zg (zw (zj (zg (zn ?_))))))))))
 cases F12
 exact zk [] [5080] Tryz.results137
 refine zi (zd (zb (za ?_)))
 refine s_mv ?_
 refine s_mv ?_
 obtain ⟨hk31,F13⟩:=zac F12
 refine zel Hit.row (fun y=>Hit.row_len y) hk31 yP30 ?_
 refine s_as ?_
 refine zf (zd (zb (za ?_)))
 refine s_mv ?_
 refine zJ rfl ?_
 refine s_as ?_
 refine zf (zd (zz (zq (zr (zd (za ?_))))))
 refine s_mv ?_
 refine zJ (zar C21 B22 hn_g17) ?_
 refine s_as ?_
 refine zf ?_
 exact s_rn (fu,(g17+1),(g18++v29.1),(w64 (g19+1))) ⟨by first | omega | (dsimp only;omega),F13,by first | omega | (dsimp only;omega)⟩ [(5080,91)]
 refine zi (zd (zb (za ?_)))
 refine s_bs (rL Hit.row) ([]:List (List Hit)) yP182 yR30 ?_
 refine s_as ?_
 refine zf (zd ?_)
 refine za2 (α:=Nat × Int × (List (List Hit))) [8,9,13,17,18,19,20,95,96,97,98,99,100,101,102,103,104,105,106,107,108,109,110,111,112,113,114,115,116,117,118,119,120,121,122,123,124,125,126,127] [94,5120] [] (fun a=>[(13,.t (.sc (.int .i64 a.2.1))),(17,.ar 5120)]) (fun a=>[(94,.dead),(5120,.arr (a.2.2.map (rL Hit.row)) 30 true)]) (fun a=>a.1≤fu∧zd2 a.1 x1 x2 x3 x4 g8 g17 g18 a.2.1 a.2.2=some r) ?_ ?_
 refine zb (za ?_)
 refine s_mv ?_
 refine zC yU25 ?_
 refine s_mv ?_
 refine zC yU25 ?_
 refine zih rfl ?_
 refine zih rfl ?_
 refine s_as ?_
 refine zf (zd (zl ?_))
 refine zeI 17 94 5120 (by conv=>lhs;whnf) (by conv=>lhs;whnf) rfl ?_
 refine zak [8,9,13,17,18,19,20,101,102,103,104,105,106,107,108,109,110,111,112,113,114,115,116,117,118,119,120,121,122,123,124,125,126,127] [5120] [124,125] [5120] (fun a:Nat × Int × (List (List Hit)) × Int=>a.1) (fun a:Nat × Int × (List (List Hit)) × Int=>[(13,.t (.sc (.int .i64 a.2.1))),(17,.ar 5120),(18,.t (.sc (.int .i64 a.2.2.2)))]) (fun a:Nat × Int × (List (List Hit)) × Int=>[(5120,.arr (a.2.2.1.map (rL Hit.row)) 30 true)]) (fun a:Nat × Int × (List (List Hit)) × Int=>a.1≤fu∧zcI a.1 x1 x2 x3 x4 g8 g17 g18 a.2.1 a.2.2.1 a.2.2.2=some r) (fu,g19,([]:List (List Hit)),(w64 ((x4.length:Int)-(w64 ((x2.length:Int)-2))))) ⟨Nat.le_refl _,F8⟩ (by rfl) (by rfl) (fun _=>rfl) (zI (by conv=>lhs;whnf) (by rfl) (zI (by conv=>lhs;whnf) (by rfl) (zI (by conv=>lhs;whnf) (by rfl) zaX))) (zL (by conv=>lhs;whnf) (by rfl) zaK) (zbZ hC rfl) (by repeat (first | exact z6 rfl | refine zal rfl ?_ | refine zQ rfl ?_)) (by repeat (first | exact zay | exact zad rfl | refine zam rfl ?_ | refine zR rfl ?_)) ?_
 clear F8
 rintro ⟨fu,g32,g33,g34⟩ ⟨hl35,F9⟩
 dsimp only at hl35 F9 ⊢
 obtain _ | fu:=fu
 · rw [zcI] at F9;cases F9
 rw [zcI] at F9
 refine zb (zb (za ?_))
 refine s_mv ?_
 refine s_gt ?_
 refine zf (zd ?_)
 refine zm F9 ?_ ?_<;>intro C36 F10
 refine zi (zd (zb (zl (zb ?_))))
 refine zP yMix (by kernel_rfl) ?_
 iterate 3 refine s_mv ?_
 obtain ⟨v37,V37,F11⟩:=zc F10
 refine zK Form.row V37 (Form.row_eq _) yE25 ?_
 refine zai yA27 yS27 ?_
 iterate 3 refine s_mv ?_
 obtain ⟨v38,V38,F12⟩:=zc F11
 refine zK Form.row V38 (Form.row_eq _) yE25 ?_
 refine zai yA27 yS27 ?_
 obtain ⟨v39,V39,F13⟩:=zc F12
 refine zv [] (ih_m_spec_l4Match fu (by omega) _ _ _ _ _ V39) ?_
 refine s_mv ?_
 refine za4 ?_
 refine za4 ?_
 refine s_as ?_
 refine s_as ?_
 refine zah (by kernel_rfl) ?_
 refine zd (zb (zb (za ?_)))
 refine s_mv ?_
 refine zaG ?_
 refine zf (zd ?_)
 refine zm F13 ?_ ?_<;>intro C40 F14
 refine zb (za ?_)
 refine s_mv ?_
 refine s_as ?_
 refine s_as ?_
 refine zf (zd (zh (zg (zj (zg (zw (zj (zex (zj (zg (zw (zj (zg (zn ?_))))))))))))))
 cases F14
 exact zk [] [5080] Tryz.results137
 refine zi (zd (zb (za ?_)))
 refine s_mv ?_
 refine s_mv ?_
 refine s_bs (rL Hit.row) [v39.1] yP182 yR30 ?_
 obtain ⟨hk41,F15⟩:=zac F14
 refine zel (rL Hit.row) (fun _=>rfl) hk41 yP182 ?_
 refine s_as ?_
 refine zf (zd (za ?_))
 refine s_mv ?_
 refine zJ rfl ?_
 refine s_as ?_
 refine zf (zW (zd (za ?_)))
 refine s_mv ?_
 refine zih rfl ?_
 refine s_as ?_
 refine zf ?_
 exact s_rn (fu,(w64 (g32+1)),(g33++[v39.1]),(w64 (g34-1))) ⟨by first | omega | (dsimp only;omega),F15⟩ [(5120,125)]
 refine zz (zq (zp (zr ?_)))
 exact s_jn (fu,g32,g33) ⟨by first | omega | (dsimp only;omega),F10⟩
 clear F8
 rintro ⟨fu,g42,g43⟩ ⟨hl44,F9⟩
 dsimp only at hl44 F9 ⊢
 obtain _ | fu:=fu
 · rw [zd2] at F9;cases F9
 rw [zd2] at F9
 refine za ?_
 iterate 3 refine s_mv ?_
 obtain ⟨v45,V45,F10⟩:=zc F9
 refine zK Form.row V45 (Form.row_eq _) yE25 ?_
 refine zai yA27 yS27 ?_
 refine s_mv ?_
 refine s_mv ?_
 obtain ⟨v46,V46,F11⟩:=zc F10
 refine zv [5120] (m_spec_l4Row_ok fu _ _ _ _ V46) ?_
 obtain ⟨hk47,F12⟩:=zac F11
 refine zel Hit.row (fun y=>Hit.row_len y) hk47 yP30 ?_
 refine s_as ?_
 refine zf (zW (zd (za ?_)))
 refine s_mv ?_
 refine zJ (zar C21 B22 hn_g17) ?_
 refine s_as ?_
 refine zf ?_
 exact s_rn (fu,(g17+1),(g18++v46),g42) ⟨by first | omega | (dsimp only;omega),F12,by first | omega | (dsimp only;omega)⟩ [(5080,136)]
 refine zz (zq (zp (zr (zd (zb (za ?_))))))
 refine s_mv ?_
 refine s_as ?_
 refine s_as ?_
 refine zf (zd (zh (zn ?_)))
 cases F4
 exact zk [] [5080] Tryz.results137
theorem m_spec_l4Match_st (fu:Nat) (ih_m_spec_l4List:∀ k,k≤fu→zgv k) (ih_m_spec_l4Match:∀ k,k≤fu→zez k):zez (fu+1):=by
 intro x1 x2 x3 x4 r F0
 rw [zb4] at F0
 refine AC_i [.t (.sl (r.1.map Hit.row)),.t (.sc (.bool r.2))] Tryz.func65 rfl Tryz.ntmps65 ?_
 intro C hC
 refine zb (za ?_)
 refine zaN ?_
 refine zaN ?_
 refine s_as ?_
 refine s_as ?_
 refine zf (zd (zb (za ?_)))
 refine s_bs Hit.row ([]:List Hit) yP30 yR40 ?_
 refine s_as ?_
 refine zf (zd (zb (zb (za ?_))))
 refine s_fa zc1 ?_
 refine zu yA3 ?_
 refine s_eq ?_
 refine zf (zd ?_)
 refine zm F0 ?_ ?_<;>intro C1 F1
 refine zb (zb (za ?_))
 refine s_fa zcp ?_
 refine zu yA9 ?_
 refine zhv ?_
 refine zf (zd ?_)
 refine zm F1 ?_ ?_<;>intro C2 F2
 refine zb (za ?_)
 refine s_mv ?_
 refine s_as ?_
 refine s_as ?_
 refine zf (zd (zh (zg (zg (zn ?_)))))
 cases F2
 exact zk [] [11] Tryz.results65
 refine zi (zd (zb (zb (za ?_))))
 refine s_mv ?_
 refine zG yA27 yS27 ?_
 obtain ⟨v3,V3,F3⟩:=zc F2
 refine zv [] (zhp fu _ _ _ V3) ?_
 refine zf (zd ?_)
 refine zm F3 ?_ ?_<;>intro C4 F4
 refine za2 (α:=Nat × Bool) [8,9,22,23,24,25,26,27,28,29,30,31] [] [] (fun a=>[(8,.ar 11),(9,.t (.sc (.bool a.2)))]) (fun a=>[]) (fun a=>a.1≤fu∧zcR a.1  a.2=some r) ?_ ?_
 refine za ?_
 refine s_mv ?_
 refine s_fa zc1 ?_
 refine zu yA3 ?_
 refine s_eq ?_
 refine s_mv ?_
 refine zo _ 26 F4 ?_ ?_<;>intro C5 F5
 refine s_mv ?_
 refine zG yA27 yS27 ?_
 refine zG yA27 yS27 ?_
 obtain ⟨v6,V6,F6⟩:=zc F5
 refine zv [] (m_spec_l3Same_ok fu _ _ _ _ V6) ?_
 refine zA ?_
 refine s_as ?_
 refine s_as ?_
 refine zf ?_
 exact s_jn (fu,v6) ⟨by first | omega | (dsimp only;omega),F6⟩
 iterate 4 refine r_no rfl ?_
 refine zy ?_
 refine s_as ?_
 refine s_as ?_
 refine zf ?_
 exact s_jn (fu,false) ⟨by first | omega | (dsimp only;omega),F5⟩
 clear F4
 rintro ⟨fu,g7⟩ ⟨hl8,F5⟩
 dsimp only at hl8 F5 ⊢
 obtain _ | fu:=fu
 · rw [zcR] at F5;cases F5
 rw [zcR] at F5
 refine zh (zg (zg (zn ?_)))
 cases F5
 exact zk [] [11] Tryz.results65
 refine zi (zd (zb (za ?_)))
 refine s_mv ?_
 refine zG yA27 yS27 ?_
 refine zG yA27 yS27 ?_
 refine zgE yZ40 yL40 ?_
 refine s_bs Hit.row [(Hit.mk x2 0 x4 ([]:List Hit))] yP30 yR40 ?_
 obtain ⟨hk9,F5⟩:=zac F4
 refine zel Hit.row (fun y=>Hit.row_len y) hk9 yP30 ?_
 refine s_as ?_
 refine s_as ?_
 refine zf (zd (zh (zg (zn ?_))))
 cases F5
 exact zk [] [37] Tryz.results65
 refine zi (zd (zb (zb (za ?_))))
 refine s_fa zc1 ?_
 refine zu yA3 ?_
 refine s_eq ?_
 refine zf (zd ?_)
 refine zm F1 ?_ ?_<;>intro C10 F2
 refine zb (za ?_)
 refine s_mv ?_
 refine zG yA27 yS27 ?_
 refine zG yA27 yS27 ?_
 obtain ⟨v11,V11,F3⟩:=zc F2
 refine zv [] (zfw fu _ _ _ V11) ?_
 refine s_as ?_
 refine s_as ?_
 refine zf (zd (zh (zg (zn ?_))))
 cases F3
 exact zk [] [11] Tryz.results65
 refine zi (zd (zb (zb (za ?_))))
 refine s_fa zc1 ?_
 refine zu yA3 ?_
 refine s_ne ?_
 refine zf (zd ?_)
 refine zm F2 ?_ ?_<;>intro C12 F3
 refine zb (za ?_)
 refine s_mv ?_
 refine s_as ?_
 refine s_as ?_
 refine zf (zd (zh (zg (zn ?_))))
 cases F3
 exact zk [] [11] Tryz.results65
 refine zi (zd (zb (za ?_)))
 refine s_mv ?_
 refine s_fa zF ?_
 refine zu yA25 ?_
 refine s_mv ?_
 refine s_fa zF ?_
 refine zu yA25 ?_
 obtain ⟨v13,V13,F4⟩:=zc F3
 refine zv [] (ih_m_spec_l4List fu (by omega) _ _ _ _ _ V13) ?_
 refine za4 ?_
 refine za4 ?_
 refine s_as ?_
 refine s_as ?_
 refine zf (zd (zh (zn ?_)))
 cases F4
 exact zk [] [] Tryz.results65
theorem m_spec_l4List_all (fuel:Nat):zgv fuel∧zez fuel:=by
 induction fuel using Nat.strongRecOn with
 | _ N ih =>
   cases N with
   | zero=>exact ⟨(by intro x1 x2 x3 x4 r h;rw [zfX] at h;cases h),(by intro x1 x2 x3 x4 r h;rw [zb4] at h;cases h)⟩
   | succ fu=>exact ⟨m_spec_l4List_st fu (fun k hk=>(ih k (by omega)).1) (fun k hk=>(ih k (by omega)).2),m_spec_l4Match_st fu (fun k hk=>(ih k (by omega)).1) (fun k hk=>(ih k (by omega)).2)⟩
theorem ziL (fuel:Nat):zez fuel:=(m_spec_l4List_all fuel).2
def zfB (fuel:Nat):Prop:=∀ (x1:Form) (r:Int),zdi fuel x1=some r→AC Tryz.prog 23 [.ag [.t (.sc (.int .i64 x1.kind)),.t (.sc (.str x1.name)),.t (.sc (.int .i64 x1.n)),.t (.sl (x1.scopes.map rI)),.t (.sl (x1.kids.map Form.row))]] noOb (.t (.sc (.int .i64 r))) noOb
theorem m_impl_FormSize_st (fu:Nat) (ih_m_impl_FormSize:∀ k,k≤fu→zfB k):zfB (fu+1):=by
 intro x1 r F0
 rw [zdi] at F0
 refine AC_i [.t (.sc (.int .i64 r))] Tryz.func23 rfl Tryz.ntmps23 ?_
 intro C hC
 refine zb (za ?_)
 refine zaN ?_
 refine s_as ?_
 refine zf (zd (zb (za ?_)))
 refine s_as ?_
 refine zf (zd (zb (zb (za ?_))))
 refine s_fa zF ?_
 refine zu yA25 ?_
 refine zC yU25 ?_
 refine s_mv ?_
 refine zf (zd (zl ?_))
 refine zaP (β:=Int × Int) [3,5,9,10,11,12,13,14,15,16,17] [] [5] (fun a=>[(3,.t (.sc (.int .i64 a.2.1))),(9,.t (.sc (.int .i64 a.2.2)))]) (fun a=>[]) (fun a=>a.1≤fu∧zb3 a.1 x1 a.2.1 a.2.2=some r∧0≤a.2.2) (fu,1,0) ⟨Nat.le_refl _,F0,by simp⟩ ?_
 clear F0
 rintro ⟨fu,g1,g2⟩ ⟨hl3,F1,hn_g2⟩
 dsimp only at hl3 F1 hn_g2 ⊢
 obtain _ | fu:=fu
 · rw [zb3] at F1;cases F1
 rw [zb3] at F1
 refine zb (za ?_)
 refine s_lt ?_
 refine zf (zd (zb ?_))
 refine zm F1 ?_ ?_<;>intro C4 F2
 refine zM 7 (fun B5=>?_)
 refine zi (zd (zb (zl (zb (za ?_)))))
 obtain ⟨v6,V6,F3⟩:=zc F2
 refine zK Form.row V6 (Form.row_eq _) yE25 ?_
 refine zai yA27 yS27 ?_
 refine zU yZ27 ?_
 refine zab yS27 ?_
 refine zf (zd (za ?_))
 refine s_mv ?_
 refine zG yA27 yS27 ?_
 obtain ⟨v7,V7,F4⟩:=zc F3
 refine zv [] (ih_m_impl_FormSize fu (by omega) _ _ V7) ?_
 refine zJ rfl ?_
 refine s_as ?_
 refine zf (zW (zd (za ?_)))
 refine zJ (zar C4 B5 hn_g2) ?_
 refine s_mv ?_
 refine zf ?_
 exact s_rn (fu,(w64 (g1+v7)),(g2+1)) ⟨by first | omega | (dsimp only;omega),F4,by first | omega | (dsimp only;omega)⟩
 refine zz (zq (zp (zr (zd (zb (za ?_))))))
 refine s_mv ?_
 refine s_as ?_
 refine zf (zd (zh (zn ?_)))
 cases F2
 exact zk [] [] Tryz.results23
theorem m_impl_FormSize_all (fuel:Nat):zfB fuel:=by
 induction fuel using Nat.strongRecOn with
 | _ N ih =>
   cases N with
   | zero=>exact (by intro x1 r h;rw [zdi] at h;cases h)
   | succ fu=>exact m_impl_FormSize_st fu (fun k hk=>(ih k (by omega)))
theorem m_impl_FormSize_ok (fuel:Nat):zfB fuel:=(m_impl_FormSize_all fuel)
def zdW (fuel:Nat):Prop:=∀ (x1:Hit) (r:Bool),zeK fuel x1=some r→AC Tryz.prog 85 [.ag [.t (.sc (.int .i64 x1.name.kind)),.t (.sc (.str x1.name.name)),.t (.sc (.int .i64 x1.name.n)),.t (.sl (x1.name.scopes.map rI)),.t (.sl (x1.name.kids.map Form.row)),.t (.sc (.int .i64 x1.depth)),.t (.sc (.int .i64 x1.one.kind)),.t (.sc (.str x1.one.name)),.t (.sc (.int .i64 x1.one.n)),.t (.sl (x1.one.scopes.map rI)),.t (.sl (x1.one.kids.map Form.row)),.t (.sl (x1.many.map Hit.row))]] noOb (.t (.sc (.bool r))) noOb
def zdS (fuel:Nat):Prop:=∀ (x1:Hit) (o1:Hit) (r:Bool),zeq fuel x1 o1=some r→AC Tryz.prog 148 [.ag [.t (.sc (.int .i64 x1.name.kind)),.t (.sc (.str x1.name.name)),.t (.sc (.int .i64 x1.name.n)),.t (.sl (x1.name.scopes.map rI)),.t (.sl (x1.name.kids.map Form.row)),.t (.sc (.int .i64 x1.depth)),.t (.sc (.int .i64 x1.one.kind)),.t (.sc (.str x1.one.name)),.t (.sc (.int .i64 x1.one.n)),.t (.sl (x1.one.scopes.map rI)),.t (.sl (x1.one.kids.map Form.row)),.t (.sl (x1.many.map Hit.row))],.rf 9000 0] (objs [(9000,.box [.t (.sc (.int .i64 o1.name.kind)),.t (.sc (.str o1.name.name)),.t (.sc (.int .i64 o1.name.n)),.t (.sl (o1.name.scopes.map rI)),.t (.sl (o1.name.kids.map Form.row)),.t (.sc (.int .i64 o1.depth)),.t (.sc (.int .i64 o1.one.kind)),.t (.sc (.str o1.one.name)),.t (.sc (.int .i64 o1.one.n)),.t (.sl (o1.one.scopes.map rI)),.t (.sl (o1.one.kids.map Form.row)),.t (.sl (o1.many.map Hit.row))])]) (.t (.sc (.bool r))) (objs [(9000,.box [.t (.sc (.int .i64 o1.name.kind)),.t (.sc (.str o1.name.name)),.t (.sc (.int .i64 o1.name.n)),.t (.sl (o1.name.scopes.map rI)),.t (.sl (o1.name.kids.map Form.row)),.t (.sc (.int .i64 o1.depth)),.t (.sc (.int .i64 o1.one.kind)),.t (.sc (.str o1.one.name)),.t (.sc (.int .i64 o1.one.n)),.t (.sl (o1.one.scopes.map rI)),.t (.sl (o1.one.kids.map Form.row)),.t (.sl (o1.many.map Hit.row))])])
def zat (fuel:Nat):Prop:=∀ (x1:(List Hit)) (o1:Hit) (r:Bool),zaU fuel x1 o1=some r→AC Tryz.prog 147 [.t (.sl (x1.map Hit.row)),.fn 148 [.rf 9000 0]] (objs [(9000,.box [.t (.sc (.int .i64 o1.name.kind)),.t (.sc (.str o1.name.name)),.t (.sc (.int .i64 o1.name.n)),.t (.sl (o1.name.scopes.map rI)),.t (.sl (o1.name.kids.map Form.row)),.t (.sc (.int .i64 o1.depth)),.t (.sc (.int .i64 o1.one.kind)),.t (.sc (.str o1.one.name)),.t (.sc (.int .i64 o1.one.n)),.t (.sl (o1.one.scopes.map rI)),.t (.sl (o1.one.kids.map Form.row)),.t (.sl (o1.many.map Hit.row))])]) (.t (.sc (.bool r))) (objs [(9000,.box [.t (.sc (.int .i64 o1.name.kind)),.t (.sc (.str o1.name.name)),.t (.sc (.int .i64 o1.name.n)),.t (.sl (o1.name.scopes.map rI)),.t (.sl (o1.name.kids.map Form.row)),.t (.sc (.int .i64 o1.depth)),.t (.sc (.int .i64 o1.one.kind)),.t (.sc (.str o1.one.name)),.t (.sc (.int .i64 o1.one.n)),.t (.sl (o1.one.scopes.map rI)),.t (.sl (o1.one.kids.map Form.row)),.t (.sl (o1.many.map Hit.row))])])
def zax (fuel:Nat):Prop:=∀ (x1:(List Hit)) (o1:Hit) (r:Int),zbj fuel x1 o1=some r→AC Tryz.prog 149 [.t (.sl (x1.map Hit.row)),.fn 148 [.rf 9000 0]] (objs [(9000,.box [.t (.sc (.int .i64 o1.name.kind)),.t (.sc (.str o1.name.name)),.t (.sc (.int .i64 o1.name.n)),.t (.sl (o1.name.scopes.map rI)),.t (.sl (o1.name.kids.map Form.row)),.t (.sc (.int .i64 o1.depth)),.t (.sc (.int .i64 o1.one.kind)),.t (.sc (.str o1.one.name)),.t (.sc (.int .i64 o1.one.n)),.t (.sl (o1.one.scopes.map rI)),.t (.sl (o1.one.kids.map Form.row)),.t (.sl (o1.many.map Hit.row))])]) (.t (.sc (.int .i64 r))) (objs [(9000,.box [.t (.sc (.int .i64 o1.name.kind)),.t (.sc (.str o1.name.name)),.t (.sc (.int .i64 o1.name.n)),.t (.sl (o1.name.scopes.map rI)),.t (.sl (o1.name.kids.map Form.row)),.t (.sc (.int .i64 o1.depth)),.t (.sc (.int .i64 o1.one.kind)),.t (.sc (.str o1.one.name)),.t (.sc (.int .i64 o1.one.n)),.t (.sl (o1.one.scopes.map rI)),.t (.sl (o1.one.kids.map Form.row)),.t (.sl (o1.many.map Hit.row))])])
theorem m_impl_hitOk_st (fu:Nat) (ih_m_impl_hitOk:∀ k,k≤fu→zdW k) (ih_m_impl_hitOk_1:∀ k,k≤fu→zdS k) (ih_m_slices_ContainsFunc_Hit_hitOk_1:∀ k,k≤fu→zat k) (ih_m_slices_IndexFunc_Hit_hitOk_1:∀ k,k≤fu→zax k):zdW (fu+1):=by
 intro x1 r F0
 rw [zeK] at F0
 refine AC_i [.t (.sc (.bool r))] Tryz.func85 rfl Tryz.ntmps85 ?_
 intro C hC
 refine zb (za ?_)
 refine zaN ?_
 refine s_as ?_
 refine zf (zd (zb (zb (za ?_))))
 refine s_fa ziF ?_
 refine zai yA27 yS27 ?_
 obtain ⟨v1,V1,F1⟩:=zc F0
 refine zv [] (zfi fu _ _ V1) ?_
 refine zaG ?_
 refine s_mv ?_
 refine zo _ 7 F1 ?_ ?_<;>intro C2 F2
 iterate 4 refine r_no rfl ?_
 refine zA ?_
 refine s_mv ?_
 iterate 4 refine r_no rfl ?_
 refine zA ?_
 refine s_mv ?_
 iterate 4 refine r_no rfl ?_
 refine zA ?_
 refine zf (zd (zT rfl (zb (za ?_))))
 refine s_as ?_
 refine zf (zd (zh (zg (zn ?_))))
 cases F2
 exact zk [] [] Tryz.results85
 refine s_fa ziF ?_
 refine s_fa zcp ?_
 refine zu yA9 ?_
 refine zhv ?_
 refine zy ?_
 refine s_mv ?_
 refine zo _ 13 F2 ?_ ?_<;>intro C3 F3
 iterate 4 refine r_no rfl ?_
 refine zA ?_
 refine s_mv ?_
 iterate 4 refine r_no rfl ?_
 refine zA ?_
 refine zf (zd (zT rfl (zb (za ?_))))
 refine s_as ?_
 refine zf (zd (zh (zg (zn ?_))))
 cases F3
 exact zk [] [] Tryz.results85
 refine s_fa ziF ?_
 refine s_fa zcp ?_
 refine zu yA9 ?_
 refine zhv ?_
 refine zy ?_
 refine s_mv ?_
 refine zo _ 19 F3 ?_ ?_<;>intro C4 F4
 iterate 4 refine r_no rfl ?_
 refine zA ?_
 refine zf (zd (zT rfl (zb (za ?_))))
 refine s_as ?_
 refine zf (zd (zh (zg (zn ?_))))
 cases F4
 exact zk [] [] Tryz.results85
 refine s_fa zhY ?_
 refine zu yA3 ?_
 obtain ⟨v5,V5,F5⟩:=zc F4
 refine zv [] (zfg fu _ _ _ _ V5) ?_
 refine zaG ?_
 refine zy ?_
 refine zf (zd ?_)
 refine zm F5 ?_ ?_<;>intro C6 F6
 refine zb (za ?_)
 refine s_as ?_
 refine zf (zd (zh (zg (zn ?_))))
 cases F6
 exact zk [] [] Tryz.results85
 refine zi (zd (zb (zb (za ?_))))
 refine s_fa zhY ?_
 refine zu yA3 ?_
 refine s_eq ?_
 refine zf (zd ?_)
 refine zm F6 ?_ ?_<;>intro C7 F7
 refine zb (za ?_)
 refine s_fa yF40_2 ?_
 refine zai yA27 yS27 ?_
 obtain ⟨v8,V8,F8⟩:=zc F7
 refine zv [] (zbO fu _ _ V8) ?_
 refine s_mv ?_
 refine zo _ 31 F8 ?_ ?_<;>intro C9 F9
 refine s_fa ziE ?_
 refine zu yA30 ?_
 refine zC yU30 ?_
 refine s_eq ?_
 refine zA ?_
 refine s_as ?_
 refine zf (zd (zh (zg (zn ?_))))
 cases F9
 exact zk [] [] Tryz.results85
 iterate 4 refine r_no rfl ?_
 refine zy ?_
 refine s_as ?_
 refine zf (zd (zh (zg (zn ?_))))
 cases F9
 exact zk [] [] Tryz.results85
 refine zi (zd (zb (za ?_)))
 refine s_fa yF40_2 ?_
 refine zai yA27 yS27 ?_
 refine zgE yZ27 yL27 ?_
 obtain ⟨v10,V10,F8⟩:=zc F7
 refine zv [] (zbi fu _ _ _ V10) ?_
 refine s_mv ?_
 refine zo _ 41 F8 ?_ ?_<;>intro C11 F9
 refine s_fa ziE ?_
 refine zu yA30 ?_
 refine zC yU30 ?_
 refine s_le ?_
 refine zA ?_
 refine s_mv ?_
 refine zo _ 47 F9 ?_ ?_<;>intro C12 F10
 refine s_fa ziE ?_
 refine zu yA30 ?_
 refine s_fn ?_
 obtain ⟨v13,V13,F11⟩:=zc F10
 refine z4 [(9000,1)] [] _ _ (ih_m_slices_ContainsFunc_Hit_hitOk_1 fu (by omega) _ _ _ V13) ?_
 refine zaG ?_
 refine zA ?_
 refine s_as ?_
 refine zf (zd (zh (zn ?_)))
 cases F11
 exact zk [] [] Tryz.results85
 iterate 5 refine r_no rfl ?_
 refine zy ?_
 refine s_as ?_
 refine zf (zd (zh (zn ?_)))
 cases F10
 exact zk [] [] Tryz.results85
 iterate 4 refine r_no rfl ?_
 refine zy ?_
 refine s_mv ?_
 iterate 5 refine r_no rfl ?_
 refine zy ?_
 refine s_as ?_
 refine zf (zd (zh (zn ?_)))
 cases F9
 exact zk [] [] Tryz.results85
theorem m_impl_hitOk_1_st (fu:Nat) (ih_m_impl_hitOk:∀ k,k≤fu→zdW k) (ih_m_impl_hitOk_1:∀ k,k≤fu→zdS k) (ih_m_slices_ContainsFunc_Hit_hitOk_1:∀ k,k≤fu→zat k) (ih_m_slices_IndexFunc_Hit_hitOk_1:∀ k,k≤fu→zax k):zdS (fu+1):=by
 intro x1 o1 r F0
 rw [zeq] at F0
 refine AC_i [.t (.sc (.bool r))] Tryz.func148 rfl Tryz.ntmps148 ?_
 intro C hC
 refine zb (za ?_)
 refine zaN ?_
 refine s_as ?_
 refine zf (zd (zb (za ?_)))
 refine s_fa ziF ?_
 refine zai yA27 yS27 ?_
 refine s_fa ziF ?_
 refine zai yA27 yS27 ?_
 obtain ⟨v1,V1,F1⟩:=zc F0
 refine zv [] (zbi fu _ _ _ V1) ?_
 refine zaG ?_
 refine s_mv ?_
 refine zo _ 10 F1 ?_ ?_<;>intro C2 F2
 iterate 6 refine r_no rfl ?_
 refine zA ?_
 refine s_mv ?_
 iterate 3 refine r_no rfl ?_
 refine zA ?_
 refine s_as ?_
 refine zf (zd (zh (zn ?_)))
 cases F2
 exact zk _ [] Tryz.results148
 refine s_fa zhY ?_
 refine zu yA3 ?_
 refine s_fa zhY ?_
 refine zu yA3 ?_
 refine zih rfl ?_
 refine s_ne ?_
 refine zy ?_
 refine s_mv ?_
 refine zo _ 18 F2 ?_ ?_<;>intro C3 F3
 iterate 3 refine r_no rfl ?_
 refine zA ?_
 refine s_as ?_
 refine zf (zd (zh (zn ?_)))
 cases F3
 exact zk _ [] Tryz.results148
 refine zG yA40 yS40 ?_
 obtain ⟨v4,V4,F4⟩:=zc F3
 refine zv [] (ih_m_impl_hitOk fu (by omega) _ _ V4) ?_
 refine zaG ?_
 refine zy ?_
 refine s_as ?_
 refine zf (zd (zh (zn ?_)))
 cases F4
 exact zk _ [] Tryz.results148
theorem zgj (fu:Nat) (ih_m_impl_hitOk:∀ k,k≤fu→zdW k) (ih_m_impl_hitOk_1:∀ k,k≤fu→zdS k) (ih_m_slices_ContainsFunc_Hit_hitOk_1:∀ k,k≤fu→zat k) (ih_m_slices_IndexFunc_Hit_hitOk_1:∀ k,k≤fu→zax k):zat (fu+1):=by
 intro x1 o1 r F0
 rw [zaU] at F0
 refine AC_i [.t (.sc (.bool r))] Tryz.func147 rfl Tryz.ntmps147 ?_
 intro C hC
 refine zb (za ?_)
 refine s_as ?_
 refine zf (zd (zb (za ?_)))
 refine s_mv ?_
 refine s_mv ?_
 obtain ⟨v1,V1,F1⟩:=zc F0
 refine z4 [(9000,9000)] [] _ _ (ih_m_slices_IndexFunc_Hit_hitOk_1 fu (by omega) _ _ _ V1) ?_
 refine s_ge ?_
 refine s_as ?_
 refine zf (zd (zh (zn ?_)))
 cases F1
 exact zk _ [] Tryz.results147
theorem zg2 (fu:Nat) (ih_m_impl_hitOk:∀ k,k≤fu→zdW k) (ih_m_impl_hitOk_1:∀ k,k≤fu→zdS k) (ih_m_slices_ContainsFunc_Hit_hitOk_1:∀ k,k≤fu→zat k) (ih_m_slices_IndexFunc_Hit_hitOk_1:∀ k,k≤fu→zax k):zax (fu+1):=by
 intro x1 o1 r F0
 rw [zbj] at F0
 refine AC_i [.t (.sc (.int .i64 r))] Tryz.func149 rfl Tryz.ntmps149 ?_
 intro C hC
 refine zb (za ?_)
 refine s_as ?_
 refine zf (zd (zb (zb (za ?_))))
 refine s_mv ?_
 refine zC yU30 ?_
 refine s_mv ?_
 refine zf (zd (zl ?_))
 refine zaP (β:=Int) [4,5,8,9,10,11,12,13,14,15,16,17,18] [] [] (fun a=>[(8,.t (.sc (.int .i64 a.2)))]) (fun a=>[]) (fun a=>a.1≤fu∧zao a.1 x1 o1 a.2=some r∧0≤a.2) (fu,0) ⟨Nat.le_refl _,F0,by simp⟩ ?_
 clear F0
 rintro ⟨fu,g1⟩ ⟨hl2,F1,hn_g1⟩
 dsimp only at hl2 F1 hn_g1 ⊢
 obtain _ | fu:=fu
 · rw [zao] at F1;cases F1
 rw [zao] at F1
 refine zb (za ?_)
 refine s_lt ?_
 refine zf (zd (zb ?_))
 refine zm F1 ?_ ?_<;>intro C3 F2
 refine zM 0 (fun B4=>?_)
 refine zi (zd (zb (zl (zb (za ?_)))))
 refine s_mv ?_
 refine s_as ?_
 refine zf (zd (zb (za ?_)))
 iterate 3 refine s_mv ?_
 obtain ⟨v5,V5,F3⟩:=zc F2
 refine zK Hit.row V5 (Hit.row_eq _) yE30 ?_
 refine zai yA40 yS40 ?_
 obtain ⟨v6,V6,F4⟩:=zc F3
 refine z4 [(9000,9000)] [] _ _ (ih_m_impl_hitOk_1 fu (by omega) _ _ _ V6) ?_
 refine zf (zd ?_)
 refine zm F4 ?_ ?_<;>intro C7 F5
 refine zb (za ?_)
 refine s_mv ?_
 refine s_as ?_
 refine zf (zd (zh (zj (zg (zw (zj (zg (zn ?_))))))))
 cases F5
 exact zk _ [] Tryz.results149
 refine zi (zW (zd (za ?_)))
 refine zJ (zar C3 B4 hn_g1) ?_
 refine s_mv ?_
 refine zf ?_
 exact s_rn (fu,(g1+1)) ⟨by first | omega | (dsimp only;omega),F5,by first | omega | (dsimp only;omega)⟩
 refine zz (zq (zp (zr (zd (zb (za ?_))))))
 refine s_as ?_
 refine zf (zd (zh (zn ?_)))
 cases F2
 exact zk _ [] Tryz.results149
theorem m_impl_hitOk_all (fuel:Nat):zdW fuel∧zdS fuel∧zat fuel∧zax fuel:=by
 induction fuel using Nat.strongRecOn with
 | _ N ih =>
   cases N with
   | zero=>exact ⟨(by intro x1 r h;rw [zeK] at h;cases h),(by intro x1 o1 r h;rw [zeq] at h;cases h),(by intro x1 o1 r h;rw [zaU] at h;cases h),(by intro x1 o1 r h;rw [zbj] at h;cases h)⟩
   | succ fu=>exact ⟨m_impl_hitOk_st fu (fun k hk=>(ih k (by omega)).1) (fun k hk=>(ih k (by omega)).2.1) (fun k hk=>(ih k (by omega)).2.2.1) (fun k hk=>(ih k (by omega)).2.2.2),m_impl_hitOk_1_st fu (fun k hk=>(ih k (by omega)).1) (fun k hk=>(ih k (by omega)).2.1) (fun k hk=>(ih k (by omega)).2.2.1) (fun k hk=>(ih k (by omega)).2.2.2),zgj fu (fun k hk=>(ih k (by omega)).1) (fun k hk=>(ih k (by omega)).2.1) (fun k hk=>(ih k (by omega)).2.2.1) (fun k hk=>(ih k (by omega)).2.2.2),zg2 fu (fun k hk=>(ih k (by omega)).1) (fun k hk=>(ih k (by omega)).2.1) (fun k hk=>(ih k (by omega)).2.2.1) (fun k hk=>(ih k (by omega)).2.2.2)⟩
theorem m_impl_hitOk_ok (fuel:Nat):zdW fuel:=(m_impl_hitOk_all fuel).1
def m_impl_hitAt_1_AC (fuel:Nat):Prop:=∀ (x1:Hit) (o1:Form) (r:Bool),zer fuel x1 o1=some r→AC Tryz.prog 150 [.ag [.t (.sc (.int .i64 x1.name.kind)),.t (.sc (.str x1.name.name)),.t (.sc (.int .i64 x1.name.n)),.t (.sl (x1.name.scopes.map rI)),.t (.sl (x1.name.kids.map Form.row)),.t (.sc (.int .i64 x1.depth)),.t (.sc (.int .i64 x1.one.kind)),.t (.sc (.str x1.one.name)),.t (.sc (.int .i64 x1.one.n)),.t (.sl (x1.one.scopes.map rI)),.t (.sl (x1.one.kids.map Form.row)),.t (.sl (x1.many.map Hit.row))],.rf 9000 0] (objs [(9000,.box [.t (.sc (.int .i64 o1.kind)),.t (.sc (.str o1.name)),.t (.sc (.int .i64 o1.n)),.t (.sl (o1.scopes.map rI)),.t (.sl (o1.kids.map Form.row))])]) (.t (.sc (.bool r))) (objs [(9000,.box [.t (.sc (.int .i64 o1.kind)),.t (.sc (.str o1.name)),.t (.sc (.int .i64 o1.n)),.t (.sl (o1.scopes.map rI)),.t (.sl (o1.kids.map Form.row))])])
theorem m_impl_hitAt_1_ok (fuel:Nat):m_impl_hitAt_1_AC fuel:=by
 intro x1 o1 r F0
 unfold zer at F0
 refine AC_i [.t (.sc (.bool r))] Tryz.func150 rfl Tryz.ntmps150 ?_
 intro C hC
 refine zb (za ?_)
 refine zaN ?_
 refine s_as ?_
 refine zf (zd (zb (za ?_)))
 refine s_fa ziF ?_
 refine zai yA27 yS27 ?_
 refine zG yA27 yS27 ?_
 obtain ⟨v1,V1,F1⟩:=zc F0
 refine zv [] (zbi fuel _ _ _ V1) ?_
 refine s_as ?_
 refine zf (zd (zh (zn ?_)))
 cases F1
 exact zk _ [] Tryz.results150
end Go.Abs
