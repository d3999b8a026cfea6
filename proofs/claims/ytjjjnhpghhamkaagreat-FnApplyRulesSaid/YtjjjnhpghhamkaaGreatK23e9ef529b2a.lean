/- A part of the proof: what the functions that the law calls answer, as pure values. -/
import Derived.Test.YtjjjnhpghhamkaaGreatKc0fe836f7e33
import Derived.Test.YtjjjnhpghhamkaaGreatK8d582f2e31e6
import Derived.Test.YtjjjnhpghhamkaaGreatK06634278733b
import Derived.Test.YtjjjnhpghhamkaaGreatK8faf616840a9
import Derived.Test.YtjjjnhpghhamkaaGreatK48decf646e3b
set_option linter.unusedSimpArgs false
set_option linter.unusedVariables false
set_option maxRecDepth 100000
set_option maxHeartbeats 4000000
namespace Go.Abs
open Go.Proofs
theorem m_spec_l4Vars_all (fuel:Nat):zgu fuel:=by
 induction fuel using Nat.strongRecOn with
 | _ N ih =>
   cases N with
   | zero=>exact (by intro x1 x2 x3 r h;rw [zc2] at h;cases h)
   | succ fu=>exact m_spec_l4Vars_st fu (fun k hk=>(ih k (by omega)))
theorem zhG (fuel:Nat):zgu fuel:=(m_spec_l4Vars_all fuel)
def zft (fuel:Nat):Prop:=∀ (x1:(List Int)) (x2:Form) (x3:(List Form)) (x4:Int) (r:(List Int)),zbc fuel x1 x2 x3 x4=some r→AC Tryz.prog 132 [.ar 9300,.ag [.t (.sc (.int .i64 x2.kind)),.t (.sc (.str x2.name)),.t (.sc (.int .i64 x2.n)),.t (.sl (x2.scopes.map rI)),.t (.sl (x2.kids.map Form.row))],.t (.sl (x3.map Form.row)),.t (.sc (.int .i64 x4))] (objs [(9300,.arr (x1.map rI) 3 true)]) (.ar 9200) (objs [(9300,.dead),(9200,.arr (r.map rI) 3 true)])
theorem m_spec_l4Depths_st (fu:Nat) (ih_m_spec_l4Depths:∀ k,k≤fu→zft k):zft (fu+1):=by
 intro x1 x2 x3 x4 r F0
 rw [zbc] at F0
 refine AC_i [.ar 9200] Tryz.func132 rfl Tryz.ntmps132 ?_
 intro C hC
 refine zb (za ?_)
 refine zaN ?_
 refine s_as ?_
 refine zf (zd (zb (zb (za ?_))))
 refine zG yA27 yS27 ?_
 refine s_mv ?_
 obtain ⟨v1,V1,F1⟩:=zc F0
 refine zv [] (m_spec_l4Var_ok fu _ _ _ V1) ?_
 refine zf (zd ?_)
 refine zm F1 ?_ ?_<;>intro C2 F2
 refine za ?_
 refine s_mv ?_
 refine s_mv ?_
 refine s_bs rI [x4] yP24 yR3 ?_
 obtain ⟨hk3,F3⟩:=zac F2
 refine zel rI (fun _=>rfl) hk3 yP24 ?_
 refine s_as ?_
 refine zf (zd (zb (zb (za ?_))))
 refine s_as ?_
 refine zf (zd (zl ?_))
 refine zeI 0 17 5020 (by conv=>lhs;whnf) (by conv=>lhs;whnf) rfl ?_
 refine zak [0,9,10,18,19,20,21,22,23,24,25,26,27,28,29,30,31,32,33,34,35,36,37,38,39,40,41,42,43,44,45,46,47,48,49,50,51] [5020] [12051] [5020] (fun a:Nat × (List Int) × Int=>a.1) (fun a:Nat × (List Int) × Int=>[(0,.ar 5020),(9,.t (.sc (.int .i64 a.2.2)))]) (fun a:Nat × (List Int) × Int=>[(5020,.arr (a.2.1.map rI) 3 true)]) (fun a:Nat × (List Int) × Int=>a.1≤fu∧zag a.1 x2 x3 x4 a.2.1 a.2.2=some r∧0≤a.2.2) (fu,(x1++[x4]),0) ⟨Nat.le_refl _,F3,by simp⟩ (by rfl) (by rfl) (fun _=>rfl) (zI (by conv=>lhs;whnf) (by rfl) (zI (by conv=>lhs;whnf) (by rfl) zaX)) (zL (by conv=>lhs;whnf) (by rfl) zaK) (zbZ hC rfl) (by repeat (first | exact z6 rfl | refine zal rfl ?_ | refine zQ rfl ?_)) (by repeat (first | exact zay | exact zad rfl | refine zam rfl ?_ | refine zR rfl ?_)) ?_
 clear F3
 rintro ⟨fu,g4,g5⟩ ⟨hl6,F4,hn_g5⟩
 dsimp only at hl6 F4 hn_g5 ⊢
 obtain _ | fu:=fu
 · rw [zag] at F4;cases F4
 rw [zag] at F4
 refine zb (zb (za ?_))
 refine s_mv ?_
 refine s_fa zF ?_
 refine zu yA25 ?_
 refine zC yU25 ?_
 refine s_lt ?_
 refine zf (zd ?_)
 refine zm F4 ?_ ?_<;>intro C7 F5
 refine zM 20 (fun B8=>?_)
 refine zi (zd (zb (zl (zb (za ?_)))))
 refine s_mv ?_
 refine s_as ?_
 refine zf (zd (zb (zb (za ?_))))
 refine s_mv ?_
 refine zJ (zar C7 B8 hn_g5) ?_
 refine s_fa zF ?_
 refine zu yA25 ?_
 refine zC yU25 ?_
 refine s_lt ?_
 refine s_mv ?_
 refine zo _ 32 F5 ?_ ?_<;>intro C9 F6
 refine s_fa zF ?_
 refine zu yA25 ?_
 refine s_mv ?_
 refine zJ (zar C7 B8 hn_g5) ?_
 obtain ⟨v10,V10,F7⟩:=zc F6
 refine zK Form.row V10 (Form.row_eq _) yE25 ?_
 refine zai yA27 yS27 ?_
 obtain ⟨v11,V11,F8⟩:=zc F7
 refine zv [] (zaR fu _ _ V11) ?_
 refine zA ?_
 refine zf (zd ?_)
 refine zm F8 ?_ ?_<;>intro C12 F9
 refine za ?_
 refine s_mv ?_
 refine zJ rfl ?_
 refine s_as ?_
 refine zf (zd (za ?_))
 refine s_mv ?_
 refine s_fa zF ?_
 refine zu yA25 ?_
 refine s_mv ?_
 obtain ⟨v13,V13,F10⟩:=zc F9
 refine zK Form.row V13 (Form.row_eq _) yE25 ?_
 refine zai yA27 yS27 ?_
 refine s_mv ?_
 refine s_mv ?_
 obtain ⟨v14,V14,F11⟩:=zc F10
 refine z4 [(9300,5020),(9200,12051)] [] _ _ (ih_m_spec_l4Depths fu (by omega) _ _ _ _ _ V14) ?_
 refine s_as ?_
 refine zf (zW (zd (za ?_)))
 refine s_mv ?_
 refine zJ (zar C7 B8 hn_g5) ?_
 refine s_as ?_
 refine zf ?_
 exact s_rn (fu,v14,(g5+1)) ⟨by first | omega | (dsimp only;omega),F11,by first | omega | (dsimp only;omega)⟩ [(5020,12051)]
 refine zi (zd (za ?_))
 refine s_mv ?_
 refine s_fa zF ?_
 refine zu yA25 ?_
 refine s_mv ?_
 obtain ⟨v15,V15,F10⟩:=zc F9
 refine zK Form.row V15 (Form.row_eq _) yE25 ?_
 refine zai yA27 yS27 ?_
 refine s_mv ?_
 refine s_mv ?_
 obtain ⟨v16,V16,F11⟩:=zc F10
 refine z4 [(9300,5020),(9200,12051)] [] _ _ (ih_m_spec_l4Depths fu (by omega) _ _ _ _ _ V16) ?_
 refine s_as ?_
 refine zf (zW (zd (za ?_)))
 refine s_mv ?_
 refine zJ (zar C7 B8 hn_g5) ?_
 refine s_as ?_
 refine zf ?_
 exact s_rn (fu,v16,(g5+1)) ⟨by first | omega | (dsimp only;omega),F11,by first | omega | (dsimp only;omega)⟩ [(5020,12051)]
 iterate 7 refine r_no rfl ?_
 refine zy ?_
 refine zf (zd (zaZ rfl (zi (zd (za ?_)))))
 refine s_mv ?_
 refine s_fa zF ?_
 refine zu yA25 ?_
 refine s_mv ?_
 obtain ⟨v17,V17,F7⟩:=zc F6
 refine zK Form.row V17 (Form.row_eq _) yE25 ?_
 refine zai yA27 yS27 ?_
 refine s_mv ?_
 refine s_mv ?_
 obtain ⟨v18,V18,F8⟩:=zc F7
 refine z4 [(9300,5020),(9200,12051)] [] _ _ (ih_m_spec_l4Depths fu (by omega) _ _ _ _ _ V18) ?_
 refine s_as ?_
 refine zf (zW (zd (za ?_)))
 refine s_mv ?_
 refine zJ (zar C7 B8 hn_g5) ?_
 refine s_as ?_
 refine zf ?_
 exact s_rn (fu,v18,(g5+1)) ⟨by first | omega | (dsimp only;omega),F8,by first | omega | (dsimp only;omega)⟩ [(5020,12051)]
 refine zz (zq (zp (zr (zd (zb (za ?_))))))
 refine s_mv ?_
 refine s_as ?_
 refine zf (zd ?_)
 refine zeI 8 5020 9200 (by conv=>lhs;whnf) (by conv=>lhs;whnf) rfl ?_
 refine zh (zn ?_)
 cases F5
 exact zk _ [] Tryz.results132
 refine zi (zd (zb (zb (za ?_))))
 refine s_as ?_
 refine zf (zd (zl ?_))
 refine zeI 0 9300 5040 (by conv=>lhs;whnf) (by conv=>lhs;whnf) rfl ?_
 refine zak [0,9,10,18,19,20,21,22,23,24,25,26,27,28,29,30,31,32,33,34,35,36,37,38,39,40,41,42,43,44,45,46,47,48,49,50,51] [5040] [12051] [5040] (fun a:Nat × (List Int) × Int=>a.1) (fun a:Nat × (List Int) × Int=>[(0,.ar 5040),(9,.t (.sc (.int .i64 a.2.2)))]) (fun a:Nat × (List Int) × Int=>[(5040,.arr (a.2.1.map rI) 3 true)]) (fun a:Nat × (List Int) × Int=>a.1≤fu∧zag a.1 x2 x3 x4 a.2.1 a.2.2=some r∧0≤a.2.2) (fu,x1,0) ⟨Nat.le_refl _,F2,by simp⟩ (by rfl) (by rfl) (fun _=>rfl) (zI (by conv=>lhs;whnf) (by rfl) (zI (by conv=>lhs;whnf) (by rfl) zaX)) (zL (by conv=>lhs;whnf) (by rfl) zaK) (zbZ hC rfl) (by repeat (first | exact z6 rfl | refine zal rfl ?_ | refine zQ rfl ?_)) (by repeat (first | exact zay | exact zad rfl | refine zam rfl ?_ | refine zR rfl ?_)) ?_
 clear F2
 rintro ⟨fu,g19,g20⟩ ⟨hl21,F3,hn_g20⟩
 dsimp only at hl21 F3 hn_g20 ⊢
 obtain _ | fu:=fu
 · rw [zag] at F3;cases F3
 rw [zag] at F3
 refine zb (zb (za ?_))
 refine s_mv ?_
 refine s_fa zF ?_
 refine zu yA25 ?_
 refine zC yU25 ?_
 refine s_lt ?_
 refine zf (zd ?_)
 refine zm F3 ?_ ?_<;>intro C22 F4
 refine zM 20 (fun B23=>?_)
 refine zi (zd (zb (zl (zb (za ?_)))))
 refine s_mv ?_
 refine s_as ?_
 refine zf (zd (zb (zb (za ?_))))
 refine s_mv ?_
 refine zJ (zar C22 B23 hn_g20) ?_
 refine s_fa zF ?_
 refine zu yA25 ?_
 refine zC yU25 ?_
 refine s_lt ?_
 refine s_mv ?_
 refine zo _ 32 F4 ?_ ?_<;>intro C24 F5
 refine s_fa zF ?_
 refine zu yA25 ?_
 refine s_mv ?_
 refine zJ (zar C22 B23 hn_g20) ?_
 obtain ⟨v25,V25,F6⟩:=zc F5
 refine zK Form.row V25 (Form.row_eq _) yE25 ?_
 refine zai yA27 yS27 ?_
 obtain ⟨v26,V26,F7⟩:=zc F6
 refine zv [] (zaR fu _ _ V26) ?_
 refine zA ?_
 refine zf (zd ?_)
 refine zm F7 ?_ ?_<;>intro C27 F8
 refine za ?_
 refine s_mv ?_
 refine zJ rfl ?_
 refine s_as ?_
 refine zf (zd (za ?_))
 refine s_mv ?_
 refine s_fa zF ?_
 refine zu yA25 ?_
 refine s_mv ?_
 obtain ⟨v28,V28,F9⟩:=zc F8
 refine zK Form.row V28 (Form.row_eq _) yE25 ?_
 refine zai yA27 yS27 ?_
 refine s_mv ?_
 refine s_mv ?_
 obtain ⟨v29,V29,F10⟩:=zc F9
 refine z4 [(9300,5040),(9200,12051)] [] _ _ (ih_m_spec_l4Depths fu (by omega) _ _ _ _ _ V29) ?_
 refine s_as ?_
 refine zf (zW (zd (za ?_)))
 refine s_mv ?_
 refine zJ (zar C22 B23 hn_g20) ?_
 refine s_as ?_
 refine zf ?_
 exact s_rn (fu,v29,(g20+1)) ⟨by first | omega | (dsimp only;omega),F10,by first | omega | (dsimp only;omega)⟩ [(5040,12051)]
 refine zi (zd (za ?_))
 refine s_mv ?_
 refine s_fa zF ?_
 refine zu yA25 ?_
 refine s_mv ?_
 obtain ⟨v30,V30,F9⟩:=zc F8
 refine zK Form.row V30 (Form.row_eq _) yE25 ?_
 refine zai yA27 yS27 ?_
 refine s_mv ?_
 refine s_mv ?_
 obtain ⟨v31,V31,F10⟩:=zc F9
 refine z4 [(9300,5040),(9200,12051)] [] _ _ (ih_m_spec_l4Depths fu (by omega) _ _ _ _ _ V31) ?_
 refine s_as ?_
 refine zf (zW (zd (za ?_)))
 refine s_mv ?_
 refine zJ (zar C22 B23 hn_g20) ?_
 refine s_as ?_
 refine zf ?_
 exact s_rn (fu,v31,(g20+1)) ⟨by first | omega | (dsimp only;omega),F10,by first | omega | (dsimp only;omega)⟩ [(5040,12051)]
 iterate 7 refine r_no rfl ?_
 refine zy ?_
 refine zf (zd (zaZ rfl (zi (zd (za ?_)))))
 refine s_mv ?_
 refine s_fa zF ?_
 refine zu yA25 ?_
 refine s_mv ?_
 obtain ⟨v32,V32,F6⟩:=zc F5
 refine zK Form.row V32 (Form.row_eq _) yE25 ?_
 refine zai yA27 yS27 ?_
 refine s_mv ?_
 refine s_mv ?_
 obtain ⟨v33,V33,F7⟩:=zc F6
 refine z4 [(9300,5040),(9200,12051)] [] _ _ (ih_m_spec_l4Depths fu (by omega) _ _ _ _ _ V33) ?_
 refine s_as ?_
 refine zf (zW (zd (za ?_)))
 refine s_mv ?_
 refine zJ (zar C22 B23 hn_g20) ?_
 refine s_as ?_
 refine zf ?_
 exact s_rn (fu,v33,(g20+1)) ⟨by first | omega | (dsimp only;omega),F7,by first | omega | (dsimp only;omega)⟩ [(5040,12051)]
 refine zz (zq (zp (zr (zd (zb (za ?_))))))
 refine s_mv ?_
 refine s_as ?_
 refine zf (zd ?_)
 refine zeI 8 5040 9200 (by conv=>lhs;whnf) (by conv=>lhs;whnf) rfl ?_
 refine zh (zn ?_)
 cases F4
 exact zk _ [] Tryz.results132
theorem m_spec_l4Depths_all (fuel:Nat):zft fuel:=by
 induction fuel using Nat.strongRecOn with
 | _ N ih =>
   cases N with
   | zero=>exact (by intro x1 x2 x3 x4 r h;rw [zbc] at h;cases h)
   | succ fu=>exact m_spec_l4Depths_st fu (fun k hk=>(ih k (by omega)))
theorem zgX (fuel:Nat):zft fuel:=(m_spec_l4Depths_all fuel)
def m_spec_l4Is_AC (fuel:Nat):Prop:=∀ (x1:Form) (x2:(List Form)) (r:Bool),zh1 fuel x1 x2=some r→AC Tryz.prog 63 [.ag [.t (.sc (.int .i64 x1.kind)),.t (.sc (.str x1.name)),.t (.sc (.int .i64 x1.n)),.t (.sl (x1.scopes.map rI)),.t (.sl (x1.kids.map Form.row))],.t (.sl (x2.map Form.row))] noOb (.t (.sc (.bool r))) noOb
theorem m_spec_l4Is_ok (fuel:Nat):m_spec_l4Is_AC fuel:=by
 intro x1 x2 r F0
 unfold zh1 at F0
 refine AC_i [.t (.sc (.bool r))] Tryz.func63 rfl Tryz.ntmps63 ?_
 intro C hC
 refine zb (za ?_)
 refine zaN ?_
 refine s_as ?_
 refine zf (zd (zb (zb (za ?_))))
 refine zG yA27 yS27 ?_
 obtain ⟨v1,V1,F1⟩:=zc F0
 refine zv [] (zcf fuel _ _ V1) ?_
 refine zaG ?_
 refine s_mv ?_
 refine zo _ 12 F1 ?_ ?_<;>intro C2 F2
 iterate 3 refine r_no rfl ?_
 refine zA ?_
 refine s_mv ?_
 iterate 3 refine r_no rfl ?_
 refine zA ?_
 refine zf (zd (zT rfl (zb (za ?_))))
 refine s_as ?_
 refine zf (zd (zh (zg (zn ?_))))
 cases F2
 exact zk [] [] Tryz.results63
 refine s_mv ?_
 obtain ⟨v3,V3,F3⟩:=zc F2
 refine zv [] (zhL fuel _ _ V3) ?_
 refine zaG ?_
 refine zy ?_
 refine s_mv ?_
 refine zo _ 17 F3 ?_ ?_<;>intro C4 F4
 iterate 3 refine r_no rfl ?_
 refine zA ?_
 refine zf (zd (zT rfl (zb (za ?_))))
 refine s_as ?_
 refine zf (zd (zh (zg (zn ?_))))
 cases F4
 exact zk [] [] Tryz.results63
 refine zG yA27 yS27 ?_
 obtain ⟨v5,V5,F5⟩:=zc F4
 refine zv [] (m_spec_l4Shape_ok fuel _ _ V5) ?_
 refine zaG ?_
 refine zy ?_
 refine zf (zd ?_)
 refine zm F5 ?_ ?_<;>intro C6 F6
 refine zb (za ?_)
 refine s_as ?_
 refine zf (zd (zh (zg (zn ?_))))
 cases F6
 exact zk [] [] Tryz.results63
 refine zi (zd (zb (za ?_)))
 refine s_bs Form.row ([]:List Form) yP25 yR27 ?_
 refine zG yA27 yS27 ?_
 refine s_mv ?_
 obtain ⟨v7,V7,F7⟩:=zc F6
 refine z4 [(9300,22),(9200,12025)] [] _ _ (zhG fuel _ _ _ _ V7) ?_
 refine s_as ?_
 refine zf (zd (zb (zb (za ?_))))
 refine s_as ?_
 refine zf (zd (zl ?_))
 refine awp_frz 12025 (by conv=>lhs;whnf) ?_
 refine zaP (β:=Int × (List Form)) [4,6,26,27,28,29,30,31,32,33,34,35,36,37,38,39] [12025] [] (fun a=>[(6,.t (.sc (.int .i64 a.2.1)))]) (fun a=>[(12025,.arr (a.2.2.map Form.row) 27 false)]) (fun a=>a.1≤fuel∧zdI a.1 x1 x2 a.2.1 a.2.2=some r∧0≤a.2.1) (fuel,0,v7) ⟨Nat.le_refl _,F7,by simp⟩ ?_
 clear F7
 rintro ⟨fu,g8,g9⟩ ⟨hl10,F8,hn_g8⟩
 dsimp only at hl10 F8 hn_g8 ⊢
 obtain _ | fu:=fu
 · rw [zdI] at F8;cases F8
 rw [zdI] at F8
 refine zb (zb (za ?_))
 refine s_mv ?_
 refine s_mv ?_
 refine zhc yU25 ?_
 refine s_lt ?_
 refine zf (zd ?_)
 refine zm F8 ?_ ?_<;>intro C11 F9
 refine ziw 5 12025 (fun B12=>?_)
 refine zi (zd (zb (zl (zb ?_))))
 refine zP yMix (by kernel_rfl) ?_
 refine s_mv ?_
 refine s_mv ?_
 obtain ⟨v13,V13,F10⟩:=zc F9
 refine s_sl01 Form.row (fun y=>Form.row_len y) V13 yU25 yE25 ?_
 refine s_mv ?_
 refine s_mv ?_
 obtain ⟨v14,V14,F11⟩:=zc F10
 refine ziy Form.row V14 yE25 ?_
 refine s_lAN Form.row V14 (Form.row_eq _) yA27 yS27 ?_
 obtain ⟨v15,V15,F12⟩:=zc F11
 refine zv [] (zhp fu _ _ _ V15) ?_
 refine zah (by kernel_rfl) ?_
 refine zd ?_
 refine zm F12 ?_ ?_<;>intro C16 F13
 refine zb (za ?_)
 refine s_as ?_
 refine zf (zd (zh (zj (zg (zw (zj (zg (zn ?_))))))))
 cases F13
 exact zk [] [] Tryz.results63
 refine zi (zW (zd (za ?_)))
 refine s_mv ?_
 refine zJ (zar C11 B12 hn_g8) ?_
 refine s_as ?_
 refine zf ?_
 exact s_rn (fu,(g8+1),g9) ⟨by first | omega | (dsimp only;omega),F13,by first | omega | (dsimp only;omega)⟩
 refine zz (zq (zp (zr (zd (zb (za ?_))))))
 refine s_bs rI ([]:List Int) yP24 yR3 ?_
 refine zG yA27 yS27 ?_
 refine s_mv ?_
 obtain ⟨v17,V17,F10⟩:=zc F9
 refine z4 [(9300,40),(9200,12043)] [] _ _ (zgX fu _ _ _ _ _ V17) ?_
 refine s_as ?_
 refine zf (zd (zb (zb (za ?_))))
 refine s_as ?_
 refine zf (zd (zl ?_))
 refine zaP (β:=Int) [4,8,44,45,46,47,48,49,50,51,52,53,54] [] [] (fun a=>[(8,.t (.sc (.int .i64 a.2)))]) (fun a=>[]) (fun a=>a.1≤fu∧zdH a.1 g9 v17 a.2=some r∧0≤a.2) (fu,0) ⟨Nat.le_refl _,F10,by simp⟩ ?_
 clear F10
 rintro ⟨fu,g18⟩ ⟨hl19,F11,hn_g18⟩
 dsimp only at hl19 F11 hn_g18 ⊢
 obtain _ | fu:=fu
 · rw [zdH] at F11;cases F11
 rw [zdH] at F11
 refine zb (zb (za ?_))
 refine s_mv ?_
 refine s_mv ?_
 refine zhc yU24 ?_
 refine s_lt ?_
 refine zf (zd ?_)
 refine zm F11 ?_ ?_<;>intro C20 F12
 refine ziw 7 12043 (fun B21=>?_)
 refine zi (zd (zb (zl (zb (za ?_)))))
 refine s_mv ?_
 refine s_mv ?_
 obtain ⟨v22,V22,F13⟩:=zc F12
 refine ziy rI V22 yE24 ?_
 refine s_lA1 rI V22 rfl yA3 ?_
 refine s_gt ?_
 refine zf (zd ?_)
 refine zm F13 ?_ ?_<;>intro C23 F14
 refine zb (za ?_)
 refine s_as ?_
 refine zf (zd (zh (zj (zg (zw (zj (zg (zn ?_))))))))
 cases F14
 exact zk [] [] Tryz.results63
 refine zi (zW (zd (za ?_)))
 refine s_mv ?_
 refine zJ (zar C20 B21 hn_g18) ?_
 refine s_as ?_
 refine zf ?_
 exact s_rn (fu,(g18+1)) ⟨by first | omega | (dsimp only;omega),F14,by first | omega | (dsimp only;omega)⟩
 refine zz (zq (zp (zr (zd (zb (za ?_))))))
 refine s_mv ?_
 refine zhc yU25 ?_
 refine s_le ?_
 refine s_as ?_
 refine zf (zd (zh (zn ?_)))
 cases F12
 exact zk [] [] Tryz.results63
def m_spec_l2Has_AC (fuel:Nat):Prop:=∀ (x1:(List Int)) (x2:Int) (r:Bool),zgN fuel x1 x2=some r→AC Tryz.prog 212 [.t (.sl (x1.map rI)),.t (.sc (.int .i64 x2))] noOb (.t (.sc (.bool r))) noOb
theorem m_spec_l2Has_ok (fuel:Nat):m_spec_l2Has_AC fuel:=by
 intro x1 x2 r F0
 unfold zgN at F0
 refine AC_i [.t (.sc (.bool r))] Tryz.func212 rfl Tryz.ntmps212 ?_
 intro C hC
 refine zb (za ?_)
 refine s_as ?_
 refine zf (zd (zb (zb (za ?_))))
 refine s_as ?_
 refine zf (zd (zl ?_))
 refine zaP (β:=Int) [4,5,6,7,8,9,10,11,12,13,14,15,16,17] [] [] (fun a=>[(5,.t (.sc (.int .i64 a.2)))]) (fun a=>[]) (fun a=>a.1≤fuel∧zdT a.1 x1 x2 a.2=some r∧0≤a.2) (fuel,0) ⟨Nat.le_refl _,F0,by simp⟩ ?_
 clear F0
 rintro ⟨fu,g1⟩ ⟨hl2,F1,hn_g1⟩
 dsimp only at hl2 F1 hn_g1 ⊢
 obtain _ | fu:=fu
 · rw [zdT] at F1;cases F1
 rw [zdT] at F1
 refine zb (zb (za ?_))
 refine s_mv ?_
 refine s_mv ?_
 refine zC yU24 ?_
 refine s_lt ?_
 refine zf (zd ?_)
 refine zm F1 ?_ ?_<;>intro C3 F2
 refine zM 0 (fun B4=>?_)
 refine zi (zd (zb (zl (zb (za ?_)))))
 refine s_mv ?_
 refine s_mv ?_
 obtain ⟨v5,V5,F3⟩:=zc F2
 refine zK rI V5 rfl yE24 ?_
 refine zu yA3 ?_
 refine s_mv ?_
 refine s_eq ?_
 refine zf (zd ?_)
 refine zm F3 ?_ ?_<;>intro C6 F4
 refine zb (za ?_)
 refine s_as ?_
 refine zf (zd (zh (zj (zg (zw (zj (zg (zn ?_))))))))
 cases F4
 exact zk [] [] Tryz.results212
 refine zi (zW (zd (za ?_)))
 refine s_mv ?_
 refine zJ (zar C3 B4 hn_g1) ?_
 refine s_as ?_
 refine zf ?_
 exact s_rn (fu,(g1+1)) ⟨by first | omega | (dsimp only;omega),F4,by first | omega | (dsimp only;omega)⟩
 refine zz (zq (zp (zr (zd (zb (za ?_))))))
 refine s_as ?_
 refine zf (zd (zh (zn ?_)))
 cases F2
 exact zk [] [] Tryz.results212
def m_spec_ScopesWithin_AC (fuel:Nat):Prop:=∀ (x1:(List Int)) (x2:(List Int)) (r:Bool),zcV fuel x1 x2=some r→AC Tryz.prog 202 [.t (.sl (x1.map rI)),.t (.sl (x2.map rI))] noOb (.t (.sc (.bool r))) noOb
theorem zhe (fuel:Nat):m_spec_ScopesWithin_AC fuel:=by
 intro x1 x2 r F0
 unfold zcV at F0
 refine AC_i [.t (.sc (.bool r))] Tryz.func202 rfl Tryz.ntmps202 ?_
 intro C hC
 refine zb (za ?_)
 refine s_as ?_
 refine zf (zd (zb (zb (za ?_))))
 refine s_as ?_
 refine zf (zd (zl ?_))
 refine zaP (β:=Int) [4,5,6,7,8,9,10,11,12,13,14,15,16,17,18] [] [] (fun a=>[(5,.t (.sc (.int .i64 a.2)))]) (fun a=>[]) (fun a=>a.1≤fuel∧zbC a.1 x1 x2 a.2=some r∧0≤a.2) (fuel,0) ⟨Nat.le_refl _,F0,by simp⟩ ?_
 clear F0
 rintro ⟨fu,g1⟩ ⟨hl2,F1,hn_g1⟩
 dsimp only at hl2 F1 hn_g1 ⊢
 obtain _ | fu:=fu
 · rw [zbC] at F1;cases F1
 rw [zbC] at F1
 refine zb (zb (za ?_))
 refine s_mv ?_
 refine s_mv ?_
 refine zC yU24 ?_
 refine s_lt ?_
 refine zf (zd ?_)
 refine zm F1 ?_ ?_<;>intro C3 F2
 refine zM 0 (fun B4=>?_)
 refine zi (zd (zb (zl (zb (za ?_)))))
 iterate 3 refine s_mv ?_
 obtain ⟨v5,V5,F3⟩:=zc F2
 refine zK rI V5 rfl yE24 ?_
 refine zu yA3 ?_
 obtain ⟨v6,V6,F4⟩:=zc F3
 refine zv [] (m_spec_l2Has_ok fu _ _ _ V6) ?_
 refine zaG ?_
 refine zf (zd ?_)
 refine zm F4 ?_ ?_<;>intro C7 F5
 refine zb (za ?_)
 refine s_as ?_
 refine zf (zd (zh (zj (zg (zw (zj (zg (zn ?_))))))))
 cases F5
 exact zk [] [] Tryz.results202
 refine zi (zW (zd (za ?_)))
 refine s_mv ?_
 refine zJ (zar C3 B4 hn_g1) ?_
 refine s_as ?_
 refine zf ?_
 exact s_rn (fu,(g1+1)) ⟨by first | omega | (dsimp only;omega),F5,by first | omega | (dsimp only;omega)⟩
 refine zz (zq (zp (zr (zd (zb (za ?_))))))
 refine s_as ?_
 refine zf (zd (zh (zn ?_)))
 cases F2
 exact zk [] [] Tryz.results202
def m_spec_l3Fitting_AC (fuel:Nat):Prop:=∀ (x1:(List Bind)) (x2:Form) (r:(List Int)),zeX fuel x1 x2=some r→AC Tryz.prog 201 [.t (.sl (x1.map Bind.row)),.ag [.t (.sc (.int .i64 x2.kind)),.t (.sc (.str x2.name)),.t (.sc (.int .i64 x2.n)),.t (.sl (x2.scopes.map rI)),.t (.sl (x2.kids.map Form.row))]] noOb (.t (.sl (r.map rI))) noOb
theorem m_spec_l3Fitting_ok (fuel:Nat):m_spec_l3Fitting_AC fuel:=by
 intro x1 x2 r F0
 unfold zeX at F0
 refine AC_i [.t (.sl (r.map rI))] Tryz.func201 rfl Tryz.ntmps201 ?_
 intro C hC
 refine zb (za ?_)
 refine zaN ?_
 refine s_as ?_
 refine zf (zd (zb (za ?_)))
 refine s_bs rI ([]:List Int) yP24 yR3 ?_
 refine s_as ?_
 refine zf (zd (zb (zb (za ?_))))
 refine s_as ?_
 refine zf (zd (zl ?_))
 refine zeI 5 7 5020 (by conv=>lhs;whnf) (by conv=>lhs;whnf) rfl ?_
 refine zak [5,6,8,9,10,11,12,13,14,15,16,17,18,19,20,21,22,23,24,25,26,27,28,29,30,31,32,33,34,35] [5020] [34,35] [5020] (fun a:Nat × (List Int) × Int=>a.1) (fun a:Nat × (List Int) × Int=>[(5,.ar 5020),(6,.t (.sc (.int .i64 a.2.2)))]) (fun a:Nat × (List Int) × Int=>[(5020,.arr (a.2.1.map rI) 3 true)]) (fun a:Nat × (List Int) × Int=>a.1≤fuel∧zbl a.1 x1 x2 a.2.1 a.2.2=some r∧0≤a.2.2) (fuel,([]:List Int),0) ⟨Nat.le_refl _,F0,by simp⟩ (by rfl) (by rfl) (fun _=>rfl) (zI (by conv=>lhs;whnf) (by rfl) (zI (by conv=>lhs;whnf) (by rfl) zaX)) (zL (by conv=>lhs;whnf) (by rfl) zaK) (zbZ hC rfl) (by repeat (first | exact z6 rfl | refine zal rfl ?_ | refine zQ rfl ?_)) (by repeat (first | exact zay | exact zad rfl | refine zam rfl ?_ | refine zR rfl ?_)) ?_
 clear F0
 rintro ⟨fu,g1,g2⟩ ⟨hl3,F1,hn_g2⟩
 dsimp only at hl3 F1 hn_g2 ⊢
 obtain _ | fu:=fu
 · rw [zbl] at F1;cases F1
 rw [zbl] at F1
 refine zb (zb (za ?_))
 refine s_mv ?_
 refine s_mv ?_
 refine zC yU23 ?_
 refine s_lt ?_
 refine zf (zd ?_)
 refine zm F1 ?_ ?_<;>intro C4 F2
 refine zM 0 (fun B5=>?_)
 refine zi (zd (zb (zl ?_)))
 refine za2 (α:=Nat × Bool) [14,15,16,17,18,19,20,21,22,23,24,25,26,27,28,29,30,31] [] [] (fun a=>[(31,.t (.sc (.bool a.2)))]) (fun a=>[]) (fun a=>a.1≤fu∧zce a.1 x1 x2 g1 g2 a.2=some r) ?_ ?_
 refine zP yMix (by kernel_rfl) ?_
 refine s_mv ?_
 refine s_mv ?_
 obtain ⟨v6,V6,F3⟩:=zc F2
 refine zK Bind.row V6 (Bind.row_eq _) yE23 ?_
 refine s_fa yF93_0 ?_
 refine zu yA9 ?_
 refine s_fa zcp ?_
 refine zu yA9 ?_
 refine zhv ?_
 refine s_mv ?_
 refine zo _ 22 F3 ?_ ?_<;>intro C7 F4
 refine s_mv ?_
 refine s_mv ?_
 obtain ⟨v8,V8,F5⟩:=zc F4
 refine zK Bind.row V8 (Bind.row_eq _) yE23 ?_
 refine s_fa yF93_1 ?_
 refine zu yA24 ?_
 refine s_fa zf9 ?_
 refine zu yA24 ?_
 obtain ⟨v9,V9,F6⟩:=zc F5
 refine zv [] (zhe fu _ _ _ V9) ?_
 refine zA ?_
 refine zah (by kernel_rfl) ?_
 exact s_jn (fu,v9) ⟨by first | omega | (dsimp only;omega),F6⟩
 iterate 8 refine r_no rfl ?_
 refine zy ?_
 refine zah (by kernel_rfl) ?_
 exact s_jn (fu,false) ⟨by first | omega | (dsimp only;omega),F4⟩
 clear F2
 rintro ⟨fu,g10⟩ ⟨hl11,F3⟩
 dsimp only at hl11 F3 ⊢
 obtain _ | fu:=fu
 · rw [zce] at F3;cases F3
 rw [zce] at F3
 refine zm F3 ?_ ?_<;>intro C12 F4
 refine za ?_
 refine s_mv ?_
 refine s_mv ?_
 refine s_bs rI [g2] yP24 yR3 ?_
 obtain ⟨hk13,F5⟩:=zac F4
 refine zel rI (fun _=>rfl) hk13 yP24 ?_
 refine s_as ?_
 refine zf (zW (zd (za ?_)))
 refine s_mv ?_
 refine zJ (zar C4 B5 hn_g2) ?_
 refine s_as ?_
 refine zf ?_
 exact s_rn (fu,(g1++[g2]),(g2+1)) ⟨by first | omega | (dsimp only;omega),F5,by first | omega | (dsimp only;omega)⟩ [(5020,35)]
 refine zi (zW (zd (za ?_)))
 refine s_mv ?_
 refine zJ (zar C4 B5 hn_g2) ?_
 refine s_as ?_
 refine zf ?_
 exact s_rn (fu,g1,(g2+1)) ⟨by first | omega | (dsimp only;omega),F4,by first | omega | (dsimp only;omega)⟩
 refine zz (zq (zp (zr (zd (zb (za ?_))))))
 refine s_mv ?_
 refine s_as ?_
 refine zf (zd (zh (zn ?_)))
 cases F2
 exact zk [] [5020] Tryz.results201
def m_spec_l3Find_AC (fuel:Nat):Prop:=∀ (x1:(List Bind)) (x2:Form) (r:(Int × Int)),zfY fuel x1 x2=some r→AC Tryz.prog 183 [.t (.sl (x1.map Bind.row)),.ag [.t (.sc (.int .i64 x2.kind)),.t (.sc (.str x2.name)),.t (.sc (.int .i64 x2.n)),.t (.sl (x2.scopes.map rI)),.t (.sl (x2.kids.map Form.row))]] noOb (.tp [.t (.sc (.int .i64 r.1)),.t (.sc (.int .i64 r.2))]) noOb
theorem m_spec_l3Find_ok (fuel:Nat):m_spec_l3Find_AC fuel:=by
 intro x1 x2 r F0
 unfold zfY at F0
 refine AC_i [.t (.sc (.int .i64 r.1)),.t (.sc (.int .i64 r.2))] Tryz.func183 rfl Tryz.ntmps183 ?_
 intro C hC
 refine zb (za ?_)
 refine zaN ?_
 refine s_as ?_
 refine s_as ?_
 refine zf (zd (zb (za ?_)))
 refine s_mv ?_
 refine zG yA27 yS27 ?_
 obtain ⟨v1,V1,F1⟩:=zc F0
 refine zv [] (m_spec_l3Fitting_ok fuel _ _ _ V1) ?_
 refine s_as ?_
 refine zf (zd (zb (zb (za ?_))))
 refine s_as ?_
 refine zf (zd (zl ?_))
 refine zaP (β:=Int) [4,5,7,8,9,13,14,15,16,17,18,19,20,21,22,23,24,25,26,27,28,29,30,31,32,33,34,35,36,37,38,39,40,41,42,43,44,45,46,47,48,49] [] [] (fun a=>[(7,.t (.sc (.int .i64 a.2)))]) (fun a=>[]) (fun a=>a.1≤fuel∧zcK a.1 x1 v1 a.2=some r∧0≤a.2) (fuel,0) ⟨Nat.le_refl _,F1,by simp⟩ ?_
 clear F1
 rintro ⟨fu,g2⟩ ⟨hl3,F2,hn_g2⟩
 dsimp only at hl3 F2 hn_g2 ⊢
 obtain _ | fu:=fu
 · rw [zcK] at F2;cases F2
 rw [zcK] at F2
 refine zb (zb (za ?_))
 refine s_mv ?_
 refine s_mv ?_
 refine zC yU24 ?_
 refine s_lt ?_
 refine zf (zd ?_)
 refine zm F2 ?_ ?_<;>intro C4 F3
 refine zM 6 (fun B5=>?_)
 refine zi (zd (zb (zl (zb (za ?_)))))
 refine s_as ?_
 refine zf (zd ?_)
 refine za2 (α:=Nat × Bool) [8,9,19,20,21,22,23,24,25,26,27,28,29,30,31,32,33,34,35,36,37,38,39,40,41,42,43,44] [] [] (fun a=>[(8,.t (.sc (.bool a.2)))]) (fun a=>[]) (fun a=>a.1≤fu∧zd4 a.1 x1 v1 g2 a.2=some r) ?_ ?_
 refine zb (za ?_)
 refine s_as ?_
 refine zf (zd (zl ?_))
 refine zaP (β:=Bool × Int) [8,9,19,20,21,22,23,24,25,26,27,28,29,30,31,32,33,34,35,36,37,38,39,40,41,42,43,44] [] [] (fun a=>[(8,.t (.sc (.bool a.2.1))),(9,.t (.sc (.int .i64 a.2.2)))]) (fun a=>[]) (fun a=>a.1≤fu∧zcJ a.1 x1 v1 g2 a.2.1 a.2.2=some r∧0≤a.2.2) (fu,true,0) ⟨Nat.le_refl _,F3,by simp⟩ ?_
 clear F3
 rintro ⟨fu,g6,g7⟩ ⟨hl8,F4,hn_g7⟩
 dsimp only at hl8 F4 hn_g7 ⊢
 obtain _ | fu:=fu
 · rw [zcJ] at F4;cases F4
 rw [zcJ] at F4
 refine zb (zb (za ?_))
 refine s_mv ?_
 refine s_mv ?_
 refine zC yU24 ?_
 refine s_lt ?_
 refine zf (zd ?_)
 refine zm F4 ?_ ?_<;>intro C9 F5
 refine zi (zd ?_)
 refine za2 (α:=Nat × Bool) [8,25,26,27,28,29,30,31,32,33,34,35,36,37,38,39,40,41,42,43,44] [] [] (fun a=>[(8,.t (.sc (.bool a.2)))]) (fun a=>[]) (fun a=>a.1≤fu∧zds a.1 x1 v1 g2 g7 a.2=some r) ?_ ?_
 refine zl ?_
 refine zP yMix (by kernel_rfl) ?_
 refine s_mv ?_
 refine s_mv ?_
 refine zo _ 26 F5 ?_ ?_<;>intro C10 F6
 iterate 3 refine s_mv ?_
 obtain ⟨v11,V11,F7⟩:=zc F6
 refine zK rI V11 rfl yE24 ?_
 refine zu yA3 ?_
 obtain ⟨v12,V12,F8⟩:=zc F7
 refine zK Bind.row V12 (Bind.row_eq _) yE23 ?_
 refine s_fa yF93_1 ?_
 refine zu yA24 ?_
 iterate 3 refine s_mv ?_
 obtain ⟨v13,V13,F9⟩:=zc F8
 refine zK rI V13 rfl yE24 ?_
 refine zu yA3 ?_
 obtain ⟨v14,V14,F10⟩:=zc F9
 refine zK Bind.row V14 (Bind.row_eq _) yE23 ?_
 refine s_fa yF93_1 ?_
 refine zu yA24 ?_
 obtain ⟨v15,V15,F11⟩:=zc F10
 refine zv [] (zhe fu _ _ _ V15) ?_
 refine zA ?_
 refine s_as ?_
 refine zah (by kernel_rfl) ?_
 refine zW ?_
 exact s_jn (fu,v15) ⟨by first | omega | (dsimp only;omega),F11⟩
 iterate 17 refine r_no rfl ?_
 refine zy ?_
 refine s_as ?_
 refine zah (by kernel_rfl) ?_
 refine zW ?_
 exact s_jn (fu,false) ⟨by first | omega | (dsimp only;omega),F6⟩
 clear F5
 rintro ⟨fu,g16⟩ ⟨hl17,F6⟩
 dsimp only at hl17 F6 ⊢
 obtain _ | fu:=fu
 · rw [zds] at F6;cases F6
 rw [zds] at F6
 refine za ?_
 refine s_mv ?_
 refine zJ (zar C9 B5 hn_g7) ?_
 refine s_as ?_
 refine zf ?_
 exact s_rn (fu,g16,(g7+1)) ⟨by first | omega | (dsimp only;omega),F6,by first | omega | (dsimp only;omega)⟩
 refine zz (zq (zp (zr ?_)))
 exact s_jn (fu,g6) ⟨by first | omega | (dsimp only;omega),F5⟩
 clear F3
 rintro ⟨fu,g18⟩ ⟨hl19,F4⟩
 dsimp only at hl19 F4 ⊢
 obtain _ | fu:=fu
 · rw [zd4] at F4;cases F4
 rw [zd4] at F4
 refine zb (za ?_)
 refine s_mv ?_
 refine zf (zd ?_)
 refine zm F4 ?_ ?_<;>intro C20 F5
 refine zb (za ?_)
 refine s_mv ?_
 refine s_mv ?_
 obtain ⟨v21,V21,F6⟩:=zc F5
 refine zK rI V21 rfl yE24 ?_
 refine zu yA3 ?_
 refine s_as ?_
 refine s_as ?_
 refine zf (zd (zh (zj (zg (zw (zj (zg (zn ?_))))))))
 cases F6
 exact zk [] [] Tryz.results183
 refine zi (zW (zd (za ?_)))
 refine s_mv ?_
 refine zJ (zar C4 B5 hn_g2) ?_
 refine s_as ?_
 refine zf ?_
 exact s_rn (fu,(g2+1)) ⟨by first | omega | (dsimp only;omega),F5,by first | omega | (dsimp only;omega)⟩
 refine zz (zq (zp (zr (zd (zb (zb (za ?_)))))))
 refine s_mv ?_
 refine zC yU24 ?_
 refine s_gt ?_
 refine zf (zd ?_)
 refine zm F3 ?_ ?_<;>intro C22 F4
 refine zM 6 (fun B23=>?_)
 refine zb (za ?_)
 refine s_as ?_
 refine s_as ?_
 refine zf (zd (zh (zg (zn ?_))))
 cases F4
 exact zk [] [] Tryz.results183
 refine zi (zd (zb (za ?_)))
 refine s_as ?_
 refine s_as ?_
 refine zf (zd (zh (zn ?_)))
 cases F4
 exact zk [] [] Tryz.results183
def m_spec_l3Same_AC (fuel:Nat):Prop:=∀ (x1:(List Bind)) (x2:Form) (x3:Form) (r:Bool),zgY fuel x1 x2 x3=some r→AC Tryz.prog 135 [.t (.sl (x1.map Bind.row)),.ag [.t (.sc (.int .i64 x2.kind)),.t (.sc (.str x2.name)),.t (.sc (.int .i64 x2.n)),.t (.sl (x2.scopes.map rI)),.t (.sl (x2.kids.map Form.row))],.ag [.t (.sc (.int .i64 x3.kind)),.t (.sc (.str x3.name)),.t (.sc (.int .i64 x3.n)),.t (.sl (x3.scopes.map rI)),.t (.sl (x3.kids.map Form.row))]] noOb (.t (.sc (.bool r))) noOb
theorem m_spec_l3Same_ok (fuel:Nat):m_spec_l3Same_AC fuel:=by
 intro x1 x2 x3 r F0
 unfold zgY at F0
 refine AC_i [.t (.sc (.bool r))] Tryz.func135 rfl Tryz.ntmps135 ?_
 intro C hC
 refine zb (za ?_)
 refine zaN ?_
 refine zaN ?_
 refine s_as ?_
 refine zf (zd (zb (za ?_)))
 refine s_mv ?_
 refine zG yA27 yS27 ?_
 obtain ⟨v1,V1,F1⟩:=zc F0
 refine zv [] (m_spec_l3Find_ok fuel _ _ _ V1) ?_
 refine s_mv ?_
 refine za4 ?_
 refine za4 ?_
 refine s_as ?_
 refine s_as ?_
 refine zf (zd (zb (za ?_)))
 refine s_mv ?_
 refine zG yA27 yS27 ?_
 obtain ⟨v2,V2,F2⟩:=zc F1
 refine zv [] (m_spec_l3Find_ok fuel _ _ _ V2) ?_
 refine s_mv ?_
 refine za4 ?_
 refine za4 ?_
 refine s_as ?_
 refine s_as ?_
 refine zf (zd (zb ?_))
 refine za2 (α:=Nat × Bool) [23,24,25,26,27,28,29] [] [] (fun a=>[(29,.t (.sc (.bool a.2)))]) (fun a=>[]) (fun a=>a.1≤fuel∧zdr a.1 x1 x2 x3 v1 v2 a.2=some r) ?_ ?_
 refine za ?_
 refine s_mv ?_
 refine s_mv ?_
 refine s_ne ?_
 refine s_mv ?_
 refine zo _ 26 F2 ?_ ?_<;>intro C3 F3
 refine r_no rfl (r_no rfl ?_)
 refine zA ?_
 refine zf ?_
 exact s_jn (fuel,true) ⟨by first | omega | (dsimp only;omega),F3⟩
 refine s_mv ?_
 refine s_eq ?_
 refine zy ?_
 refine zf ?_
 exact s_jn (fuel,(decide (v1.2=2))) ⟨by first | omega | (dsimp only;omega),F3⟩
 clear F2
 rintro ⟨fu,g4⟩ ⟨hl5,F3⟩
 dsimp only at hl5 F3 ⊢
 obtain _ | fu:=fu
 · rw [zdr] at F3;cases F3
 rw [zdr] at F3
 refine zm F3 ?_ ?_<;>intro C6 F4
 refine zb (za ?_)
 refine s_as ?_
 refine zf (zd (zh (zg (zn ?_))))
 cases F4
 exact zk [] [] Tryz.results135
 refine zi (zd (zb (zb (za ?_))))
 refine s_mv ?_
 refine s_eq ?_
 refine zf (zd ?_)
 refine zm F4 ?_ ?_<;>intro C7 F5
 refine zb (za ?_)
 refine s_fa zcp ?_
 refine zu yA9 ?_
 refine s_fa zcp ?_
 refine zu yA9 ?_
 refine zhv ?_
 refine s_as ?_
 refine zf (zd (zh (zg (zn ?_))))
 cases F5
 exact zk [] [] Tryz.results135
 refine zi (zd (zb ?_))
 refine zP yMix (by kernel_rfl) ?_
 refine s_mv ?_
 refine s_mv ?_
 obtain ⟨v8,V8,F6⟩:=zc F5
 refine zK Bind.row V8 (Bind.row_eq _) yE23 ?_
 refine s_fa yF93_2 ?_
 refine zu yA3 ?_
 refine s_mv ?_
 refine s_mv ?_
 obtain ⟨v9,V9,F7⟩:=zc F6
 refine zK Bind.row V9 (Bind.row_eq _) yE23 ?_
 refine s_fa yF93_2 ?_
 refine zu yA3 ?_
 refine s_eq ?_
 refine s_as ?_
 refine zah (by kernel_rfl) ?_
 refine zd (zh (zn ?_))
 cases F7
 exact zk [] [] Tryz.results135
def m_spec_l4Row_AC (fuel:Nat):Prop:=∀ (x1:Form) (x2:(List Form)) (x3:(List (List Hit))) (r:(List Hit)),zhy fuel x1 x2 x3=some r→AC Tryz.prog 184 [.ag [.t (.sc (.int .i64 x1.kind)),.t (.sc (.str x1.name)),.t (.sc (.int .i64 x1.n)),.t (.sl (x1.scopes.map rI)),.t (.sl (x1.kids.map Form.row))],.t (.sl (x2.map Form.row)),.t (.sl (x3.map (rL Hit.row)))] noOb (.t (.sl (r.map Hit.row))) noOb
theorem m_spec_l4Row_ok (fuel:Nat):m_spec_l4Row_AC fuel:=by
 intro x1 x2 x3 r F0
 unfold zhy at F0
 refine AC_i [.t (.sl (r.map Hit.row))] Tryz.func184 rfl Tryz.ntmps184 ?_
 intro C hC
 refine zb (za ?_)
 refine zaN ?_
 refine s_as ?_
 refine zf (zd (zb (za ?_)))
 refine s_bs Hit.row ([]:List Hit) yP30 yR40 ?_
 refine s_as ?_
 refine zf (zd (zb (za ?_)))
 refine s_bs Form.row ([]:List Form) yP25 yR27 ?_
 refine zG yA27 yS27 ?_
 refine s_mv ?_
 obtain ⟨v1,V1,F1⟩:=zc F0
 refine z4 [(9300,14),(9200,12017)] [] _ _ (zhG fuel _ _ _ _ V1) ?_
 refine s_as ?_
 refine zf (zd (zb (za ?_)))
 refine s_bs rI ([]:List Int) yP24 yR3 ?_
 refine zG yA27 yS27 ?_
 refine s_mv ?_
 obtain ⟨v2,V2,F2⟩:=zc F1
 refine z4 [(9300,18),(9200,12021)] [] _ _ (zgX fuel _ _ _ _ _ V2) ?_
 refine s_as ?_
 refine zf (zd (zb (zb (za ?_))))
 refine s_as ?_
 refine zf (zd (zl ?_))
 refine zeI 7 13 5020 (by conv=>lhs;whnf) (by conv=>lhs;whnf) rfl ?_
 refine zak [7,10,11,12,22,23,24,25,26,27,28,29,30,31,32,33,34,35,36,37,38,39,40,41,42,43,44,45,46,47,48,49,50,51,52,53,54,55,56,57,58,59] [5020] [11,58,59,5040] [5020] (fun a:Nat × (List Hit) × Int=>a.1) (fun a:Nat × (List Hit) × Int=>[(7,.ar 5020),(10,.t (.sc (.int .i64 a.2.2)))]) (fun a:Nat × (List Hit) × Int=>[(5020,.arr (a.2.1.map Hit.row) 40 true)]) (fun a:Nat × (List Hit) × Int=>a.1≤fuel∧zc9 a.1 x3 v1 v2 a.2.1 a.2.2=some r) (fuel,([]:List Hit),0) ⟨Nat.le_refl _,F2⟩ (by rfl) (by rfl) (fun _=>rfl) (zI (by conv=>lhs;whnf) (by rfl) (zI (by conv=>lhs;whnf) (by rfl) zaX)) (zL (by conv=>lhs;whnf) (by rfl) zaK) (zbZ hC rfl) (by repeat (first | exact z6 rfl | refine zal rfl ?_ | refine zQ rfl ?_)) (by repeat (first | exact zay | exact zad rfl | refine zam rfl ?_ | refine zR rfl ?_)) ?_
 clear F2
 rintro ⟨fu,g3,g4⟩ ⟨hl5,F3⟩
 dsimp only at hl5 F3 ⊢
 obtain _ | fu:=fu
 · rw [zc9] at F3;cases F3
 rw [zc9] at F3
 refine zb (zb (za ?_))
 refine s_mv ?_
 refine s_mv ?_
 refine zhc yU25 ?_
 refine s_lt ?_
 refine zf (zd ?_)
 refine zm F3 ?_ ?_<;>intro C6 F4
 refine ziw 8 12017 (fun B7=>?_)
 refine zi (zd (zb (zl (zb ?_))))
 refine zP yMix (by kernel_rfl) ?_
 refine s_mv ?_
 refine s_mv ?_
 obtain ⟨v8,V8,F5⟩:=zc F4
 refine ziy Form.row V8 yE25 ?_
 refine s_lAN Form.row V8 (Form.row_eq _) yA27 yS27 ?_
 refine s_mv ?_
 refine s_mv ?_
 obtain ⟨v9,V9,F6⟩:=zc F5
 refine ziy rI V9 yE24 ?_
 refine s_lA1 rI V9 rfl yA3 ?_
 refine zJ rfl ?_
 refine zgE yZ40 yL40 ?_
 refine zU yZ40 ?_
 refine zab yS40 ?_
 refine zah (by kernel_rfl) ?_
 refine zd (zb (zb (za ?_)))
 refine s_as ?_
 refine zf (zd (zl ?_))
 refine awp_ownB 11 5040 40 [.t (.sc (.int .i64 v8.kind)),.t (.sc (.str v8.name)),.t (.sc (.int .i64 v8.n)),.t (.sl (v8.scopes.map rI)),.t (.sl (v8.kids.map Form.row)),.t (.sc (.int .i64 (w64 (v9+1)))),.t (.sc (.int .i64 0)),.t (.sc (.str (⟨#[]⟩:ByteArray))),.t (.sc (.int .i64 0)),.nl,.nl,.ar 5040] yI40.choose_spec ?_
 refine zak [12,38,39,40,41,42,43,44,45,46,47,48,49,50,51,52,53,54,55] [11,5040] [53,54] [5040] (fun a:Nat × Int × (List Hit)=>a.1) (fun a:Nat × Int × (List Hit)=>[(12,.t (.sc (.int .i64 a.2.1)))]) (fun a:Nat × Int × (List Hit)=>[(11,.box [.t (.sc (.int .i64 v8.kind)),.t (.sc (.str v8.name)),.t (.sc (.int .i64 v8.n)),.t (.sl (v8.scopes.map rI)),.t (.sl (v8.kids.map Form.row)),.t (.sc (.int .i64 (w64 (v9+1)))),.t (.sc (.int .i64 0)),.t (.sc (.str (⟨#[]⟩:ByteArray))),.t (.sc (.int .i64 0)),.nl,.nl,.ar 5040]),(5040,.arr (a.2.2.map Hit.row) 40 true)]) (fun a:Nat × Int × (List Hit)=>a.1≤fu∧zc8 a.1 x3 v1 v2 g3 g4 v8 v9 a.2.1 a.2.2=some r∧0≤a.2.1) (fu,0,([]:List Hit)) ⟨Nat.le_refl _,F6,by simp⟩ (by rfl) (by rfl) (fun _=>rfl) (zI (by conv=>lhs;whnf) (by rfl) zaX) (zL (by conv=>lhs;whnf) (by rfl) (zL (by conv=>lhs;whnf) (by rfl) zaK)) (zbZ hC rfl) (by repeat (first | exact z6 rfl | refine zal rfl ?_ | refine zQ rfl ?_)) (by repeat (first | exact zay | exact zad rfl | refine zam rfl ?_ | refine zR rfl ?_)) ?_
 clear F6
 rintro ⟨fu,g10,g11⟩ ⟨hl12,F7,hn_g10⟩
 dsimp only at hl12 F7 hn_g10 ⊢
 obtain _ | fu:=fu
 · rw [zc8] at F7;cases F7
 rw [zc8] at F7
 refine zb (zb (za ?_))
 refine s_mv ?_
 refine s_mv ?_
 refine zC yU182 ?_
 refine s_lt ?_
 refine zf (zd ?_)
 refine zm F7 ?_ ?_<;>intro C13 F8
 refine zM 2 (fun B14=>?_)
 refine zi (zd (zb (zl ?_)))
 refine zP yMix (by kernel_rfl) ?_
 refine s_fa ziE ?_
 refine zu yA30 ?_
 refine s_mv ?_
 refine s_mv ?_
 obtain ⟨v15,V15,F9⟩:=zc F8
 refine zK (rL Hit.row) V15 rfl yE182 ?_
 refine zu yA30 ?_
 refine s_mv ?_
 obtain ⟨v16,V16,F10⟩:=zc F9
 refine zK Hit.row V16 (Hit.row_eq _) yE30 ?_
 refine zai yA40 yS40 ?_
 refine s_bs Hit.row [v16] yP30 yR40 ?_
 obtain ⟨hk17,F11⟩:=zac F10
 refine zel Hit.row (fun y=>Hit.row_len y) hk17 yP30 ?_
 refine s_fa ziE ?_
 refine zii yS30 ?_
 refine zah (by kernel_rfl) ?_
 refine zW (zd (za ?_))
 refine s_mv ?_
 refine zJ (zar C13 B14 hn_g10) ?_
 refine s_as ?_
 refine zf ?_
 exact s_rn (fu,(g10+1),(g11++[v16])) ⟨by first | omega | (dsimp only;omega),F11,by first | omega | (dsimp only;omega)⟩ [(5040,54)]
 refine zz (zq (zp (zr (zd (za ?_)))))
 refine s_mv ?_
 refine zG yA40 yS40 ?_
 refine s_bs Hit.row [(Hit.mk v8 (w64 (v9+1)) (Form.mk 0 (⟨#[]⟩:ByteArray) 0 ([]:List Int) ([]:List Form)) g11)] yP30 yR40 ?_
 obtain ⟨hk18,F9⟩:=zac F8
 refine zel Hit.row (fun y=>Hit.row_len y) hk18 yP30 ?_
 refine s_as ?_
 refine zf (zW (zd (za ?_)))
 refine s_mv ?_
 refine zJ rfl ?_
 refine s_as ?_
 refine zf ?_
 exact s_rn (fu,(g3++[(Hit.mk v8 (w64 (v9+1)) (Form.mk 0 (⟨#[]⟩:ByteArray) 0 ([]:List Int) ([]:List Form)) g11)]),(w64 (g4+1))) ⟨by first | omega | (dsimp only;omega),F9⟩ [(5020,59)]
 refine zz (zq (zp (zr (zd (zb (za ?_))))))
 refine s_mv ?_
 refine s_as ?_
 refine zf (zd (zh (zn ?_)))
 cases F4
 exact zk [] [5020] Tryz.results184
end Go.Abs
