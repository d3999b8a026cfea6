/- A part of the proof: what the functions that the law calls answer, as pure values. -/
import Derived.Test.YtilpcjgklfjdgaaGreatK67921631fc15
import Derived.Test.YtilpcjgklfjdgaaGreatK75e03ecae9fd
import Derived.Test.YtilpcjgklfjdgaaGreatKb8c86019bdb7
import Derived.Test.YtilpcjgklfjdgaaGreatKbeececb3b691
import Derived.Test.YtilpcjgklfjdgaaGreatK349a5dde2cfa
import Derived.Test.YtilpcjgklfjdgaaGreatK2772009858f0
import Derived.Test.YtilpcjgklfjdgaaGreatK25b6b0d87810
set_option linter.unusedSimpArgs false
set_option linter.unusedVariables false
set_option maxRecDepth 100000
set_option maxHeartbeats 4000000
namespace Go.Abs
open Go.Proofs
def zdu (fuel:Nat):Prop:=∀ (x1:Form) (r:Form),zbp fuel x1=some r→AC Tryz.prog 44 [.ag [.t (.sc (.int .i64 x1.kind)),.t (.sc (.str x1.name)),.t (.sc (.int .i64 x1.n)),.t (.sl (x1.scopes.map rI)),.t (.sl (x1.kids.map Form.row))]] noOb (.ag [.t (.sc (.int .i64 r.kind)),.t (.sc (.str r.name)),.t (.sc (.int .i64 r.n)),.t (.sl (r.scopes.map rI)),.t (.sl (r.kids.map Form.row))]) noOb
def zdi (fuel:Nat):Prop:=∀ (x1:(List Form)) (r:(List Form)),zc9 fuel x1=some r→AC Tryz.prog 92 [.t (.sl (x1.map Form.row))] noOb (.t (.sl (r.map Form.row))) noOb
theorem m_spec_l15OwnForm_st (fu:Nat) (ih_m_spec_l15OwnForm:∀ k,k≤fu→zdu k) (ih_m_spec_l15OwnListForm:∀ k,k≤fu→zdi k):zdu (fu+1):=by
 intro x1 r F0
 rw [zbp] at F0
 refine AC_i [.ag [.t (.sc (.int .i64 r.kind)),.t (.sc (.str r.name)),.t (.sc (.int .i64 r.n)),.t (.sl (r.scopes.map rI)),.t (.sl (r.kids.map Form.row))]] Tryz.func44 rfl Tryz.ntmps44 ?_
 intro C hC
 refine zb (za ?_)
 refine zaL ?_
 refine zU yZ32 ?_
 refine zf (zd (zb (za ?_)))
 refine s_bs rI ([]:List Int) yP27 yR3 ?_
 refine s_fa zf3 ?_
 refine zu yA27 ?_
 obtain ⟨hk1,F1⟩:=zad F0
 refine zek rI (fun _=>rfl) hk1 yP27 ?_
 refine s_fa zf3 ?_
 refine zia yS27 ?_
 refine zf (zd (zb (za ?_)))
 refine s_fa zF ?_
 refine zu yA24 ?_
 obtain ⟨v2,V2,F2⟩:=zc F1
 refine zv [] (ih_m_spec_l15OwnListForm fu (by omega) _ _ V2) ?_
 refine s_fa zF ?_
 refine zia yS24 ?_
 refine zf (zd (zb (za ?_)))
 refine zI yA32 yS32 ?_
 refine zac yS32 ?_
 refine zf (zd (zh (zn ?_)))
 cases F2
 exact z4 [] [6] (by rw [Tryz.results44];exact (zat (by conv=>lhs;whnf) (by conv=>lhs;whnf) yA32 yS32 rfl zaf))
theorem ziH (fu:Nat) (ih_m_spec_l15OwnForm:∀ k,k≤fu→zdu k) (ih_m_spec_l15OwnListForm:∀ k,k≤fu→zdi k):zdi (fu+1):=by
 intro x1 r F0
 rw [zc9] at F0
 refine AC_i [.t (.sl (r.map Form.row))] Tryz.func92 rfl Tryz.ntmps92 ?_
 intro C hC
 refine zb (za ?_)
 refine s_as ?_
 refine zf (zd (zb (za ?_)))
 refine s_bs Form.row ([]:List Form) yP24 yR32 ?_
 refine s_as ?_
 refine zf (zd (zb (zb (za ?_))))
 refine s_mv ?_
 refine zC yU24 ?_
 refine s_mv ?_
 refine zf (zd (zl ?_))
 refine zcZ 3 6 5020 (by conv=>lhs;whnf) (by conv=>lhs;whnf) rfl ?_
 refine zal [3,5,9,10,11,12,13,14,15,16,17,18] [5020] [5,16,17] [5020] (fun a:Nat × (List Form) × Int=>a.1) (fun a:Nat × (List Form) × Int=>[(3,.ar 5020),(9,.t (.sc (.int .i64 a.2.2)))]) (fun a:Nat × (List Form) × Int=>[(5020,.arr (a.2.1.map Form.row) 32 true)]) (fun a:Nat × (List Form) × Int=>a.1≤fu∧za9 a.1 x1 a.2.1 a.2.2=some r∧0≤a.2.2) (fu,([]:List Form),0) ⟨Nat.le_refl _,F0,by simp⟩ (by rfl) (by rfl) (fun _=>rfl) (zH (by conv=>lhs;whnf) (by rfl) (zH (by conv=>lhs;whnf) (by rfl) zaV)) (zL (by conv=>lhs;whnf) (by rfl) zaG) (zbM hC rfl) (by repeat (first | exact z6 rfl | refine zaj rfl ?_ | refine zP rfl ?_)) (by repeat (first | exact zax | exact z9 rfl | refine zak rfl ?_ | refine zQ rfl ?_)) ?_
 clear F0
 rintro ⟨fu,g1,g2⟩ ⟨hl3,F1,hn_g2⟩
 dsimp only at hl3 F1 hn_g2 ⊢
 obtain _ | fu:=fu
 · rw [za9] at F1;cases F1
 rw [za9] at F1
 refine zb (za ?_)
 refine s_lt ?_
 refine zf (zd (zb ?_))
 refine zm F1 ?_ ?_<;>intro C4 F2
 refine zM 0 (fun B5=>?_)
 refine zi (zd (zb (zl (zb (za ?_)))))
 obtain ⟨v6,V6,F3⟩:=zc F2
 refine zK Form.row V6 (Form.row_eq _) yE24 ?_
 refine zam yA32 yS32 ?_
 refine zU yZ32 ?_
 refine zac yS32 ?_
 refine zf (zd (za ?_))
 refine s_mv ?_
 refine zI yA32 yS32 ?_
 obtain ⟨v7,V7,F4⟩:=zc F3
 refine zv [] (ih_m_spec_l15OwnForm fu (by omega) _ _ V7) ?_
 refine s_bs Form.row [v7] yP24 yR32 ?_
 obtain ⟨hk8,F5⟩:=zad F4
 refine zek Form.row (fun y=>Form.row_len y) hk8 yP24 ?_
 refine s_as ?_
 refine zf (zW (zd (za ?_)))
 refine zJ (zas C4 B5 hn_g2) ?_
 refine s_mv ?_
 refine zf ?_
 exact s_rn (fu,(g1++[v7]),(g2+1)) ⟨by first | omega | (dsimp only;omega),F5,by first | omega | (dsimp only;omega)⟩ [(5020,17)]
 refine zy (zq (zo (zr (zd (zb (za ?_))))))
 refine s_mv ?_
 refine s_as ?_
 refine zf (zd (zh (zn ?_)))
 cases F2
 exact zk [] [5020] Tryz.results92
theorem m_spec_l15OwnForm_all (fuel:Nat):zdu fuel∧zdi fuel:=by
 induction fuel using Nat.strongRecOn with
 | _ N ih =>
   cases N with
   | zero=>exact ⟨(by intro x1 r h;rw [zbp] at h;cases h),(by intro x1 r h;rw [zc9] at h;cases h)⟩
   | succ fu=>exact ⟨m_spec_l15OwnForm_st fu (fun k hk=>(ih k (by omega)).1) (fun k hk=>(ih k (by omega)).2),ziH fu (fun k hk=>(ih k (by omega)).1) (fun k hk=>(ih k (by omega)).2)⟩
theorem zhJ (fuel:Nat):zdu fuel:=(m_spec_l15OwnForm_all fuel).1
def zgp (fuel:Nat):Prop:=∀ (x1:Form) (x2:Form) (r:Bool),zee fuel x1 x2=some r→AC Tryz.prog 141 [.ag [.t (.sc (.int .i64 x1.kind)),.t (.sc (.str x1.name)),.t (.sc (.int .i64 x1.n)),.t (.sl (x1.scopes.map rI)),.t (.sl (x1.kids.map Form.row))],.ag [.t (.sc (.int .i64 x2.kind)),.t (.sc (.str x2.name)),.t (.sc (.int .i64 x2.n)),.t (.sl (x2.scopes.map rI)),.t (.sl (x2.kids.map Form.row))]] noOb (.t (.sc (.bool r))) noOb
theorem m_spec_l5Uses_st (fu:Nat) (ih_m_spec_l5Uses:∀ k,k≤fu→zgp k):zgp (fu+1):=by
 intro x1 x2 r F0
 rw [zee] at F0
 refine AC_i [.t (.sc (.bool r))] Tryz.func141 rfl Tryz.ntmps141 ?_
 intro C hC
 refine zb (za ?_)
 refine zaL ?_
 refine zaL ?_
 refine s_as ?_
 refine zf (zd ?_)
 refine zbb (α:=Nat) [4,6,7,8,9,10,11,12,13] [] [] (fun a=>[]) (fun a=>[]) (fun a=>a≤fu∧zdn a x1 x2 =some r) ?_ ?_
 refine zb (za ?_)
 refine s_fa zcY ?_
 refine zu yA3 ?_
 refine s_eq ?_
 refine s_mv ?_
 refine zp _ 9 F0 ?_ ?_<;>intro C1 F1
 refine zI yA32 yS32 ?_
 refine zI yA32 yS32 ?_
 obtain ⟨v2,V2,F2⟩:=zc F1
 refine zv [] (zft fu _ _ _ V2) ?_
 refine zA ?_
 refine zf (zd ?_)
 refine zm F2 ?_ ?_<;>intro C3 F3
 refine zb (za ?_)
 refine s_as ?_
 refine zf (zd (zh (zew (zn ?_))))
 cases F3
 exact zk [] [] Tryz.results141
 refine zi ?_
 exact s_jn (fu) ⟨by first | omega | (dsimp only;omega),F3⟩
 iterate 3 refine r_no rfl ?_
 refine zz ?_
 refine zf (zd (zaX rfl (zi ?_)))
 exact s_jn (fu) ⟨by first | omega | (dsimp only;omega),F1⟩
 clear F0
 rintro fu ⟨hl4,F1⟩
 obtain _ | fu:=fu
 · rw [zdn] at F1;cases F1
 rw [zdn] at F1
 refine zb (zb (za ?_))
 refine s_as ?_
 refine zf (zd (zl ?_))
 refine zaK (β:=Int) [4,5,14,15,16,17,18,19,20,21,22,23,24,25,26,27] [] [] (fun a=>[(5,.t (.sc (.int .i64 a.2)))]) (fun a=>[]) (fun a=>a.1≤fu∧zcx a.1 x1 x2 a.2=some r∧0≤a.2) (fu,0) ⟨Nat.le_refl _,F1,by simp⟩ ?_
 clear F1
 rintro ⟨fu,g5⟩ ⟨hl6,F2,hn_g5⟩
 dsimp only at hl6 F2 hn_g5 ⊢
 obtain _ | fu:=fu
 · rw [zcx] at F2;cases F2
 rw [zcx] at F2
 refine zb (zb (za ?_))
 refine s_mv ?_
 refine s_fa zF ?_
 refine zu yA24 ?_
 refine zC yU24 ?_
 refine s_lt ?_
 refine zf (zd ?_)
 refine zm F2 ?_ ?_<;>intro C7 F3
 refine zM 16 (fun B8=>?_)
 refine zi (zd (zb (zl (zb ?_))))
 refine zO yMix (by kernel_rfl) ?_
 refine s_fa zF ?_
 refine zu yA24 ?_
 refine s_mv ?_
 obtain ⟨v9,V9,F4⟩:=zc F3
 refine zK Form.row V9 (Form.row_eq _) yE24 ?_
 refine zam yA32 yS32 ?_
 refine zI yA32 yS32 ?_
 obtain ⟨v10,V10,F5⟩:=zc F4
 refine zv [] (ih_m_spec_l5Uses fu (by omega) _ _ _ V10) ?_
 refine zae (by kernel_rfl) ?_
 refine zd ?_
 refine zm F5 ?_ ?_<;>intro C11 F6
 refine zb (za ?_)
 refine s_as ?_
 refine zf (zd (zh (zj (zg (zw (zj (zg (zn ?_))))))))
 cases F6
 exact zk [] [] Tryz.results141
 refine zi (zW (zd (za ?_)))
 refine s_mv ?_
 refine zJ (zas C7 B8 hn_g5) ?_
 refine s_as ?_
 refine zf ?_
 exact s_rn (fu,(g5+1)) ⟨by first | omega | (dsimp only;omega),F6,by first | omega | (dsimp only;omega)⟩
 refine zy (zq (zo (zr (zd (zb (za ?_))))))
 refine s_as ?_
 refine zf (zd (zh (zn ?_)))
 cases F3
 exact zk [] [] Tryz.results141
theorem m_spec_l5Uses_all (fuel:Nat):zgp fuel:=by
 induction fuel using Nat.strongRecOn with
 | _ N ih =>
   cases N with
   | zero=>exact (by intro x1 x2 r h;rw [zee] at h;cases h)
   | succ fu=>exact m_spec_l5Uses_st fu (fun k hk=>(ih k (by omega)))
theorem m_spec_l5Uses_ok (fuel:Nat):zgp fuel:=(m_spec_l5Uses_all fuel)
def m_spec_l5Count_AC (fuel:Nat):Prop:=∀ (x1:Form) (x2:(List Hit)) (r:Int),zf8 fuel x1 x2=some r→AC Tryz.prog 96 [.ag [.t (.sc (.int .i64 x1.kind)),.t (.sc (.str x1.name)),.t (.sc (.int .i64 x1.n)),.t (.sl (x1.scopes.map rI)),.t (.sl (x1.kids.map Form.row))],.t (.sl (x2.map Hit.row))] noOb (.t (.sc (.int .i64 r))) noOb
theorem m_spec_l5Count_ok (fuel:Nat):m_spec_l5Count_AC fuel:=by
 intro x1 x2 r F0
 unfold zf8 at F0
 refine AC_i [.t (.sc (.int .i64 r))] Tryz.func96 rfl Tryz.ntmps96 ?_
 intro C hC
 refine zb (za ?_)
 refine zaL ?_
 refine s_as ?_
 refine zf (zd (zb (za ?_)))
 refine s_as ?_
 refine zf (zd (zb (zb (za ?_))))
 refine s_as ?_
 refine zf (zd (zl ?_))
 refine zaK (β:=Int × Int) [4,5,6,7,8,9,10,11,12,13,14,15,16,17,18,19,20,21,22,23,24,25,26,27,28,29,30,31,32,33,34,35,36,37,38,39,40,41,42,43,44,45,46] [] [] (fun a=>[(5,.t (.sc (.int .i64 a.2.2))),(6,.t (.sc (.int .i64 a.2.1)))]) (fun a=>[]) (fun a=>a.1≤fuel∧zbU a.1 x1 x2 a.2.1 a.2.2=some r∧0≤a.2.1) (fuel,0,(-1)) ⟨Nat.le_refl _,F0,by simp⟩ ?_
 clear F0
 rintro ⟨fu,g1,g2⟩ ⟨hl3,F1,hn_g1⟩
 dsimp only at hl3 F1 hn_g1 ⊢
 obtain _ | fu:=fu
 · rw [zbU] at F1;cases F1
 rw [zbU] at F1
 refine zb (zb (za ?_))
 refine s_mv ?_
 refine s_mv ?_
 refine zC yU42 ?_
 refine s_lt ?_
 refine zf (zd ?_)
 refine zm F1 ?_ ?_<;>intro C4 F2
 refine zM 1 (fun B5=>?_)
 refine zi (zd (zb (zl (zb ?_))))
 refine zbb (α:=Nat × Bool) [13,14,15,16,17,18,19,20,21,22,23,24,25,26,27,28] [] [] (fun a=>[(28,.t (.sc (.bool a.2)))]) (fun a=>[]) (fun a=>a.1≤fu∧zci a.1 x1 x2 g1 g2 a.2=some r) ?_ ?_
 refine zO yMix (by kernel_rfl) ?_
 refine s_mv ?_
 refine s_mv ?_
 obtain ⟨v6,V6,F3⟩:=zc F2
 refine zK Hit.row V6 (Hit.row_eq _) yE42 ?_
 refine s_fa zhU ?_
 refine zu yA3 ?_
 refine s_eq ?_
 refine s_mv ?_
 refine zp _ 19 F3 ?_ ?_<;>intro C7 F4
 iterate 8 refine r_no rfl ?_
 refine zA ?_
 refine zae (by kernel_rfl) ?_
 exact s_jn (fu,true) ⟨by first | omega | (dsimp only;omega),F4⟩
 refine zI yA32 yS32 ?_
 refine s_mv ?_
 refine s_mv ?_
 obtain ⟨v8,V8,F5⟩:=zc F4
 refine zK Hit.row V8 (Hit.row_eq _) yE42 ?_
 refine s_fa zix ?_
 refine zam yA32 yS32 ?_
 obtain ⟨v9,V9,F6⟩:=zc F5
 refine zv [] (m_spec_l5Uses_ok fu _ _ _ V9) ?_
 refine zaY ?_
 refine zz ?_
 refine zae (by kernel_rfl) ?_
 exact s_jn (fu,(!v9)) ⟨by first | omega | (dsimp only;omega),F6⟩
 clear F2
 rintro ⟨fu,g10⟩ ⟨hl11,F3⟩
 dsimp only at hl11 F3 ⊢
 obtain _ | fu:=fu
 · rw [zci] at F3;cases F3
 rw [zci] at F3
 refine zm F3 ?_ ?_<;>intro C12 F4
 refine zy (zq (zr (zd (za ?_))))
 refine s_mv ?_
 refine zJ (zas C4 B5 hn_g1) ?_
 refine s_as ?_
 refine zf ?_
 exact s_rn (fu,(g1+1),g2) ⟨by first | omega | (dsimp only;omega),F4,by first | omega | (dsimp only;omega)⟩
 refine zi (zd ?_)
 refine zbb (α:=Nat) [4,29,30,31,32,33,34,35,36,37,38,39,40] [] [] (fun a=>[]) (fun a=>[]) (fun a=>a≤fu∧zcM a x1 x2 g1 =some r) ?_ ?_
 refine zb (za ?_)
 refine s_mv ?_
 refine s_ge ?_
 refine s_mv ?_
 refine zp _ 31 F4 ?_ ?_<;>intro C13 F5
 iterate 3 refine s_mv ?_
 obtain ⟨v14,V14,F6⟩:=zc F5
 refine zK Hit.row V14 (Hit.row_eq _) yE42 ?_
 refine s_fa ziw ?_
 refine zu yA42 ?_
 refine zC yU42 ?_
 refine s_ne ?_
 refine zA ?_
 refine zf (zd ?_)
 refine zm F6 ?_ ?_<;>intro C15 F7
 refine zb (za ?_)
 refine s_as ?_
 refine zf (zd (zh (zew (zj (zg (zw (zj (zg (zn ?_)))))))))
 cases F7
 exact zk [] [] Tryz.results96
 refine zi ?_
 exact s_jn (fu) ⟨by first | omega | (dsimp only;omega),F7⟩
 iterate 8 refine r_no rfl ?_
 refine zz ?_
 refine zf (zd (zaX rfl (zi ?_)))
 exact s_jn (fu) ⟨by first | omega | (dsimp only;omega),F5⟩
 clear F4
 rintro fu ⟨hl16,F5⟩
 obtain _ | fu:=fu
 · rw [zcM] at F5;cases F5
 rw [zcM] at F5
 refine za ?_
 refine s_mv ?_
 refine s_mv ?_
 obtain ⟨v17,V17,F6⟩:=zc F5
 refine zK Hit.row V17 (Hit.row_eq _) yE42 ?_
 refine s_fa ziw ?_
 refine zu yA42 ?_
 refine zC yU42 ?_
 refine s_as ?_
 refine zf (zW (zd (za ?_)))
 refine s_mv ?_
 refine zJ (zas C4 B5 hn_g1) ?_
 refine s_as ?_
 refine zf ?_
 exact s_rn (fu,(g1+1),(v17.many.length:Int)) ⟨by first | omega | (dsimp only;omega),F6,by first | omega | (dsimp only;omega)⟩
 refine zy (zq (zo (zr (zd (zb (za ?_))))))
 refine s_mv ?_
 refine s_as ?_
 refine zf (zd (zh (zn ?_)))
 cases F2
 exact zk [] [] Tryz.results96
def m_spec_l5Nth_AC (fuel:Nat):Prop:=∀ (x1:Form) (x2:(List Hit)) (x3:Int) (r:(List Hit)),zgK fuel x1 x2 x3=some r→AC Tryz.prog 97 [.ag [.t (.sc (.int .i64 x1.kind)),.t (.sc (.str x1.name)),.t (.sc (.int .i64 x1.n)),.t (.sl (x1.scopes.map rI)),.t (.sl (x1.kids.map Form.row))],.t (.sl (x2.map Hit.row)),.t (.sc (.int .i64 x3))] noOb (.t (.sl (r.map Hit.row))) noOb
theorem m_spec_l5Nth_ok (fuel:Nat):m_spec_l5Nth_AC fuel:=by
 intro x1 x2 x3 r F0
 unfold zgK at F0
 refine AC_i [.t (.sl (r.map Hit.row))] Tryz.func97 rfl Tryz.ntmps97 ?_
 intro C hC
 refine zb (za ?_)
 refine zaL ?_
 refine s_as ?_
 refine zf (zd (zb (za ?_)))
 refine s_bs Hit.row ([]:List Hit) yP42 yR48 ?_
 refine s_as ?_
 refine zf (zd (zb (zb (za ?_))))
 refine s_as ?_
 refine zf (zd (zl ?_))
 refine zcZ 7 10 5020 (by conv=>lhs;whnf) (by conv=>lhs;whnf) rfl ?_
 refine zal [7,8,9,11,12,13,14,15,16,17,18,19,20,21,22,23,24,25,26,27,28,29,30,31,32,33,34,35,36,37,38] [5020] [9,37,38] [5020] (fun a:Nat × (List Hit) × Int=>a.1) (fun a:Nat × (List Hit) × Int=>[(7,.ar 5020),(8,.t (.sc (.int .i64 a.2.2)))]) (fun a:Nat × (List Hit) × Int=>[(5020,.arr (a.2.1.map Hit.row) 48 true)]) (fun a:Nat × (List Hit) × Int=>a.1≤fuel∧zco a.1 x1 x2 x3 a.2.1 a.2.2=some r∧0≤a.2.2) (fuel,([]:List Hit),0) ⟨Nat.le_refl _,F0,by simp⟩ (by rfl) (by rfl) (fun _=>rfl) (zH (by conv=>lhs;whnf) (by rfl) (zH (by conv=>lhs;whnf) (by rfl) zaV)) (zL (by conv=>lhs;whnf) (by rfl) zaG) (zbM hC rfl) (by repeat (first | exact z6 rfl | refine zaj rfl ?_ | refine zP rfl ?_)) (by repeat (first | exact zax | exact z9 rfl | refine zak rfl ?_ | refine zQ rfl ?_)) ?_
 clear F0
 rintro ⟨fu,g1,g2⟩ ⟨hl3,F1,hn_g2⟩
 dsimp only at hl3 F1 hn_g2 ⊢
 obtain _ | fu:=fu
 · rw [zco] at F1;cases F1
 rw [zco] at F1
 refine zb (zb (za ?_))
 refine s_mv ?_
 refine s_mv ?_
 refine zC yU42 ?_
 refine s_lt ?_
 refine zf (zd ?_)
 refine zm F1 ?_ ?_<;>intro C4 F2
 refine zM 1 (fun B5=>?_)
 refine zi (zd (zb (zl (zb (za ?_)))))
 refine s_mv ?_
 refine s_mv ?_
 obtain ⟨v6,V6,F3⟩:=zc F2
 refine zK Hit.row V6 (Hit.row_eq _) yE42 ?_
 refine zam yA48 yS48 ?_
 refine zU yZ48 ?_
 refine zac yS48 ?_
 refine zf (zd (zb ?_))
 refine zbb (α:=Nat × Bool) [21,22,23,24,25,26,27,28,29] [] [] (fun a=>[(29,.t (.sc (.bool a.2)))]) (fun a=>[]) (fun a=>a.1≤fu∧zc5 a.1 x1 x2 x3 g1 g2 v6 a.2=some r) ?_ ?_
 refine za ?_
 refine s_fa zhU ?_
 refine zu yA3 ?_
 refine s_gt ?_
 refine s_mv ?_
 refine zp _ 24 F3 ?_ ?_<;>intro C7 F4
 refine zI yA32 yS32 ?_
 refine s_fa zix ?_
 refine zam yA32 yS32 ?_
 obtain ⟨v8,V8,F5⟩:=zc F4
 refine zv [] (m_spec_l5Uses_ok fu _ _ _ V8) ?_
 refine zA ?_
 refine zf ?_
 exact s_jn (fu,v8) ⟨by first | omega | (dsimp only;omega),F5⟩
 iterate 4 refine r_no rfl ?_
 refine zz ?_
 refine zf ?_
 exact s_jn (fu,false) ⟨by first | omega | (dsimp only;omega),F4⟩
 clear F3
 rintro ⟨fu,g9⟩ ⟨hl10,F4⟩
 dsimp only at hl10 F4 ⊢
 obtain _ | fu:=fu
 · rw [zc5] at F4;cases F4
 rw [zc5] at F4
 refine zm F4 ?_ ?_<;>intro C11 F5
 refine za ?_
 refine s_fa ziw ?_
 refine zu yA42 ?_
 refine s_mv ?_
 obtain ⟨v12,V12,F6⟩:=zc F5
 refine zK Hit.row V12 (Hit.row_eq _) yE42 ?_
 refine zam yA48 yS48 ?_
 refine zac yS48 ?_
 refine zf (zd (za ?_))
 refine s_mv ?_
 refine zI yA48 yS48 ?_
 refine s_bs Hit.row [v12] yP42 yR48 ?_
 obtain ⟨hk13,F7⟩:=zad F6
 refine zek Hit.row (fun y=>Hit.row_len y) hk13 yP42 ?_
 refine s_as ?_
 refine zf (zW (zd (za ?_)))
 refine s_mv ?_
 refine zJ (zas C4 B5 hn_g2) ?_
 refine s_as ?_
 refine zf ?_
 exact s_rn (fu,(g1++[v12]),(g2+1)) ⟨by first | omega | (dsimp only;omega),F7,by first | omega | (dsimp only;omega)⟩ [(5020,38)]
 refine zi (zd (za ?_))
 refine s_mv ?_
 refine zI yA48 yS48 ?_
 refine s_bs Hit.row [v6] yP42 yR48 ?_
 obtain ⟨hk14,F6⟩:=zad F5
 refine zek Hit.row (fun y=>Hit.row_len y) hk14 yP42 ?_
 refine s_as ?_
 refine zf (zW (zd (za ?_)))
 refine s_mv ?_
 refine zJ (zas C4 B5 hn_g2) ?_
 refine s_as ?_
 refine zf ?_
 exact s_rn (fu,(g1++[v6]),(g2+1)) ⟨by first | omega | (dsimp only;omega),F6,by first | omega | (dsimp only;omega)⟩ [(5020,38)]
 refine zy (zq (zo (zr (zd (zb (za ?_))))))
 refine s_mv ?_
 refine s_as ?_
 refine zf (zd (zh (zn ?_)))
 cases F2
 exact zk [] [5020] Tryz.results97
def zgr (fuel:Nat):Prop:=∀ (x1:Form) (x2:(List Hit)) (r:(Form × Bool)),zdA fuel x1 x2=some r→AC Tryz.prog 46 [.ag [.t (.sc (.int .i64 x1.kind)),.t (.sc (.str x1.name)),.t (.sc (.int .i64 x1.n)),.t (.sl (x1.scopes.map rI)),.t (.sl (x1.kids.map Form.row))],.t (.sl (x2.map Hit.row))] noOb (.tp [.ag [.t (.sc (.int .i64 r.1.kind)),.t (.sc (.str r.1.name)),.t (.sc (.int .i64 r.1.n)),.t (.sl (r.1.scopes.map rI)),.t (.sl (r.1.kids.map Form.row))],.t (.sc (.bool r.2))]) noOb
theorem m_spec_l5Fill_st (fu:Nat) (ih_m_spec_l5Fill:∀ k,k≤fu→zgr k):zgr (fu+1):=by
 intro x1 x2 r F0
 rw [zdA] at F0
 refine AC_i [.ag [.t (.sc (.int .i64 r.1.kind)),.t (.sc (.str r.1.name)),.t (.sc (.int .i64 r.1.n)),.t (.sl (r.1.scopes.map rI)),.t (.sl (r.1.kids.map Form.row))],.t (.sc (.bool r.2))] Tryz.func46 rfl Tryz.ntmps46 ?_
 intro C hC
 refine zb (za ?_)
 refine zaL ?_
 refine zU yZ32 ?_
 refine s_as ?_
 refine zf (zd (zb (za ?_)))
 refine s_as ?_
 refine zf (zd ?_)
 refine zbb (α:=Nat × Int) [6,16,17,18,19,20,21] [] [] (fun a=>[(6,.t (.sc (.int .i64 a.2)))]) (fun a=>[]) (fun a=>a.1≤fu∧zcD a.1 x1 x2 a.2=some r) ?_ ?_
 refine zb (za ?_)
 refine s_fa zcY ?_
 refine zu yA3 ?_
 refine s_eq ?_
 refine zf (zd ?_)
 refine zm F0 ?_ ?_<;>intro C1 F1
 refine za ?_
 refine s_mv ?_
 refine zI yA32 yS32 ?_
 obtain ⟨v2,V2,F2⟩:=zc F1
 refine zv [] (m_spec_l4Find_ok fu _ _ _ V2) ?_
 refine s_as ?_
 refine zf ?_
 exact s_jn (fu,v2) ⟨by first | omega | (dsimp only;omega),F2⟩
 refine zi ?_
 exact s_jn (fu,(-1)) ⟨by first | omega | (dsimp only;omega),F1⟩
 clear F0
 rintro ⟨fu,g3⟩ ⟨hl4,F1⟩
 dsimp only at hl4 F1 ⊢
 obtain _ | fu:=fu
 · rw [zcD] at F1;cases F1
 rw [zcD] at F1
 refine zb (zb (za ?_))
 refine s_mv ?_
 refine s_ge ?_
 refine zf (zd ?_)
 refine zm F1 ?_ ?_<;>intro C5 F2
 refine zb ?_
 refine zO yMix (by kernel_rfl) ?_
 refine s_mv ?_
 refine s_mv ?_
 obtain ⟨v6,V6,F3⟩:=zc F2
 refine zK Hit.row V6 (Hit.row_eq _) yE42 ?_
 refine s_fa yF48_2 ?_
 refine zam yA32 yS32 ?_
 obtain ⟨v7,V7,F4⟩:=zc F3
 refine zY [(9203,2029),(9204,12029)] [] _ _ (zd7 fu _ _ V7) ?_
 refine s_mv ?_
 refine s_mv ?_
 obtain ⟨v8,V8,F5⟩:=zc F4
 refine zK Hit.row V8 (Hit.row_eq _) yE42 ?_
 refine s_fa zhU ?_
 refine zu yA3 ?_
 refine s_eq ?_
 refine zac yS32 ?_
 refine s_as ?_
 refine zae (by kernel_rfl) ?_
 refine zd (zh (zg (zn ?_)))
 cases F5
 exact z4 [] [2029,12029] (by rw [Tryz.results46];exact (zat (by conv=>lhs;whnf) (by conv=>lhs;whnf) yA32 yS32 rfl (zai (by conv=>lhs;whnf) zaf)))
 refine zi (zd (zb ?_))
 refine zO yMix (by kernel_rfl) ?_
 refine s_fa zcY ?_
 refine zu yA3 ?_
 refine s_fa zcm ?_
 refine zu yA9 ?_
 refine s_fa zhq ?_
 refine zu yA3 ?_
 refine s_bs rI ([]:List Int) yP27 yR3 ?_
 refine s_fa zf3 ?_
 refine zu yA27 ?_
 obtain ⟨hk9,F3⟩:=zad F2
 refine zek rI (fun _=>rfl) hk9 yP27 ?_
 refine zgD yZ32 yL32 ?_
 refine zU yZ32 ?_
 refine zac yS32 ?_
 refine zae (by kernel_rfl) ?_
 refine zd (zb (za ?_))
 refine s_as ?_
 refine zf (zd (zb (zb (za ?_))))
 refine s_as ?_
 refine zf (zd (zl ?_))
 refine awp_ownB 7 5040 32 [.t (.sc (.int .i64 x1.kind)),.t (.sc (.str x1.name)),.t (.sc (.int .i64 x1.n)),.ar 45,.ar 5040] yI32.choose_spec ?_
 refine zal [5,8,9,10,11,12,13,14,15,47,48,49,50,51,52,53,54,55,56,57,58,59,60,61,62,63,64,65,66,67,68,69,70,71,72,73,74,75,76,77,78,79,80,81,82,83,84,85,86,87,88,89,90,91,92,93,94,95,96,97,98,99,100,101,102,103,104,105,106,107,108,109,110,111,112,113,114,115,116,117,118,119,120,121,122,123,124,125,126,127] [7,5040] [5100] [5040] (fun a:Nat × Int × Int × (List Form)=>a.1) (fun a:Nat × Int × Int × (List Form)=>[(5,.t (.sc (.bool false))),(8,.t (.sc (.int .i64 a.2.2.1))),(9,.t (.sc (.int .i64 a.2.1)))]) (fun a:Nat × Int × Int × (List Form)=>[(7,.box [.t (.sc (.int .i64 x1.kind)),.t (.sc (.str x1.name)),.t (.sc (.int .i64 x1.n)),.ar 45,.ar 5040]),(5040,.arr (a.2.2.2.map Form.row) 32 true)]) (fun a:Nat × Int × Int × (List Form)=>a.1≤fu∧zbO a.1 x1 x2 a.2.1 a.2.2.1 a.2.2.2=some r) (fu,0,0,([]:List Form)) ⟨Nat.le_refl _,F3⟩ (by rfl) (by rfl) (fun _=>rfl) (zH (by conv=>lhs;whnf) (by rfl) (zH (by conv=>lhs;whnf) (by rfl) (zH (by conv=>lhs;whnf) (by rfl) zaV))) (zL (by conv=>lhs;whnf) (by rfl) (zL (by conv=>lhs;whnf) (by rfl) zaG)) (zbM hC rfl) (by repeat (first | exact z6 rfl | refine zaj rfl ?_ | refine zP rfl ?_)) (by repeat (first | exact zax | exact z9 rfl | refine zak rfl ?_ | refine zQ rfl ?_)) ?_
 clear F3
 rintro ⟨fu,g10,g11,g12⟩ ⟨hl13,F4⟩
 dsimp only at hl13 F4 ⊢
 obtain _ | fu:=fu
 · rw [zbO] at F4;cases F4
 rw [zbO] at F4
 refine zb (zb (za ?_))
 refine s_mv ?_
 refine s_fa zF ?_
 refine zu yA24 ?_
 refine zC yU24 ?_
 refine s_lt ?_
 refine zf (zd ?_)
 refine zm F4 ?_ ?_<;>intro C14 F5
 refine zM 49 (fun B15=>?_)
 refine zi (zd (zb (zl (zb (zb (za ?_))))))
 refine s_fa zF ?_
 refine zu yA24 ?_
 refine s_mv ?_
 obtain ⟨v16,V16,F6⟩:=zc F5
 refine zK Form.row V16 (Form.row_eq _) yE24 ?_
 refine zam yA32 yS32 ?_
 obtain ⟨v17,V17,F7⟩:=zc F6
 refine zv [] (zaN fu _ _ V17) ?_
 refine zf (zd ?_)
 refine zm F7 ?_ ?_<;>intro C18 F8
 refine zy (zq (zr (zd (za ?_))))
 refine s_mv ?_
 refine zJ (zas C14 B15 (zdE V16).1) ?_
 refine s_as ?_
 refine zf ?_
 exact s_rn (fu,(g10+1),g11,g12) ⟨by first | omega | (dsimp only;omega),F8⟩
 refine zi (zd (zb (za ?_)))
 refine s_as ?_
 refine zf (zd ?_)
 refine zbb (α:=Nat × Bool) [11,60,61,62,63,64,65,66,67,68,69,70,71,72,73,74] [] [] (fun a=>[(11,.t (.sc (.bool a.2)))]) (fun a=>[]) (fun a=>a.1≤fu∧zcC a.1 x1 x2 g10 g11 g12 a.2=some r) ?_ ?_
 refine za ?_
 refine s_mv ?_
 refine zJ (zas C14 B15 (zdE V16).1) ?_
 refine s_fa zF ?_
 refine zu yA24 ?_
 refine zC yU24 ?_
 refine s_lt ?_
 refine s_mv ?_
 refine zp _ 66 F8 ?_ ?_<;>intro C19 F9
 refine s_fa zF ?_
 refine zu yA24 ?_
 refine s_mv ?_
 refine zJ (zas C14 B15 (zdE V16).1) ?_
 obtain ⟨v20,V20,F10⟩:=zc F9
 refine zK Form.row V20 (Form.row_eq _) yE24 ?_
 refine zam yA32 yS32 ?_
 obtain ⟨v21,V21,F11⟩:=zc F10
 refine zv [] (zaN fu _ _ V21) ?_
 refine zA ?_
 refine s_as ?_
 refine zf ?_
 exact s_jn (fu,v21) ⟨by first | omega | (dsimp only;omega),F11⟩
 iterate 7 refine r_no rfl ?_
 refine zz ?_
 refine s_as ?_
 refine zf ?_
 exact s_jn (fu,false) ⟨by first | omega | (dsimp only;omega),F9⟩
 clear F8
 rintro ⟨fu,g22⟩ ⟨hl23,F9⟩
 dsimp only at hl23 F9 ⊢
 obtain _ | fu:=fu
 · rw [zcC] at F9;cases F9
 rw [zcC] at F9
 refine zbb (α:=Nat × Int) [10,75,76,77,78,79,80,81,82] [] [] (fun a=>[(10,.t (.sc (.int .i64 a.2)))]) (fun a=>[]) (fun a=>a.1≤fu∧zcB a.1 x1 x2 g10 g11 g12 g22 a.2=some r) ?_ ?_
 refine zb (za ?_)
 refine s_mv ?_
 refine zf (zd ?_)
 refine zm F9 ?_ ?_<;>intro C24 F10
 refine za ?_
 refine s_fa zF ?_
 refine zu yA24 ?_
 refine s_mv ?_
 obtain ⟨v25,V25,F11⟩:=zc F10
 refine zK Form.row V25 (Form.row_eq _) yE24 ?_
 refine zam yA32 yS32 ?_
 refine s_mv ?_
 obtain ⟨v26,V26,F12⟩:=zc F11
 refine zv [] (m_spec_l5Count_ok fu _ _ _ V26) ?_
 refine s_as ?_
 refine zf ?_
 exact s_jn (fu,v26) ⟨by first | omega | (dsimp only;omega),F12⟩
 refine zi ?_
 exact s_jn (fu,1) ⟨by first | omega | (dsimp only;omega),F10⟩
 clear F9
 rintro ⟨fu,g27⟩ ⟨hl28,F10⟩
 dsimp only at hl28 F10 ⊢
 obtain _ | fu:=fu
 · rw [zcB] at F10;cases F10
 rw [zcB] at F10
 refine zb (zb (za ?_))
 refine s_mv ?_
 refine s_lt ?_
 refine zf (zd ?_)
 refine zm F10 ?_ ?_<;>intro C29 F11
 refine zb (za ?_)
 refine zI yA32 yS32 ?_
 refine zac yS32 ?_
 refine s_as ?_
 refine zf (zd (zh (zg (zj (zg (zw (zj (zg (zn ?_)))))))))
 cases F11
 exact z4 [] [] (by rw [Tryz.results46];exact (zat (by conv=>lhs;whnf) (by conv=>lhs;whnf) yA32 yS32 rfl (zai (by conv=>lhs;whnf) zaf)))
 refine zi (zd (zb (za ?_)))
 refine s_as ?_
 refine zf (zd (zl ?_))
 refine zeR 7 5040 5100 [.t (.sc (.int .i64 x1.kind)),.t (.sc (.str x1.name)),.t (.sc (.int .i64 x1.n)),.ar 45,.ar 5100] ?_
 refine zal [5,8,12,13,14,15,86,87,88,89,90,91,92,93,94,95,96,97,98,99,100,101,102,103,104,105,106,107,108,109,110,111,112,113,114,115,116,117,118,119,120,121,122,123,124,125,126,127] [7,5100] [14,125,126] [5100] (fun a:Nat × Int × Int × (List Form)=>a.1) (fun a:Nat × Int × Int × (List Form)=>[(5,.t (.sc (.bool false))),(8,.t (.sc (.int .i64 a.2.1))),(12,.t (.sc (.int .i64 a.2.2.1)))]) (fun a:Nat × Int × Int × (List Form)=>[(7,.box [.t (.sc (.int .i64 x1.kind)),.t (.sc (.str x1.name)),.t (.sc (.int .i64 x1.n)),.ar 45,.ar 5100]),(5100,.arr (a.2.2.2.map Form.row) 32 true)]) (fun a:Nat × Int × Int × (List Form)=>a.1≤fu∧zcz a.1 x1 x2 g10 g22 g27 a.2.1 a.2.2.1 a.2.2.2=some r) (fu,g11,0,g12) ⟨Nat.le_refl _,F11⟩ (by rfl) (by rfl) (fun _=>rfl) (zH (by conv=>lhs;whnf) (by rfl) (zH (by conv=>lhs;whnf) (by rfl) (zH (by conv=>lhs;whnf) (by rfl) zaV))) (zL (by conv=>lhs;whnf) (by rfl) (zL (by conv=>lhs;whnf) (by rfl) zaG)) (zbM hC rfl) (by repeat (first | exact z6 rfl | refine zaj rfl ?_ | refine zP rfl ?_)) (by repeat (first | exact zax | exact z9 rfl | refine zak rfl ?_ | refine zQ rfl ?_)) ?_
 clear F11
 rintro ⟨fu,g30,g31,g32⟩ ⟨hl33,F12⟩
 dsimp only at hl33 F12 ⊢
 obtain _ | fu:=fu
 · rw [zcz] at F12;cases F12
 rw [zcz] at F12
 refine zb (zb (za ?_))
 refine s_mv ?_
 refine s_mv ?_
 refine s_lt ?_
 refine zf (zd ?_)
 refine zm F12 ?_ ?_<;>intro C34 F13
 refine zi (zd (zb (zl (zb (za ?_)))))
 refine s_mv ?_
 refine s_as ?_
 refine zf (zd ?_)
 refine zbb (α:=Nat × (List Hit)) [13,92,93,94,95,96,97,98,99,100] [] [] (fun a=>[(13,.t (.sl (a.2.map Hit.row)))]) (fun a=>[]) (fun a=>a.1≤fu∧zdo a.1 x1 x2 g10 g22 g27 g30 g31 g32 a.2=some r) ?_ ?_
 refine zb (za ?_)
 refine s_mv ?_
 refine zf (zd ?_)
 refine zm F13 ?_ ?_<;>intro C35 F14
 refine za ?_
 refine s_fa zF ?_
 refine zu yA24 ?_
 refine s_mv ?_
 obtain ⟨v36,V36,F15⟩:=zc F14
 refine zK Form.row V36 (Form.row_eq _) yE24 ?_
 refine zam yA32 yS32 ?_
 refine s_mv ?_
 refine s_mv ?_
 obtain ⟨v37,V37,F16⟩:=zc F15
 refine zv [] (m_spec_l5Nth_ok fu _ _ _ _ V37) ?_
 refine s_as ?_
 refine zf ?_
 exact s_jn (fu,v37) ⟨by first | omega | (dsimp only;omega),F16⟩
 refine zi ?_
 exact s_jn (fu,x2) ⟨by first | omega | (dsimp only;omega),F14⟩
 clear F13
 rintro ⟨fu,g38⟩ ⟨hl39,F14⟩
 dsimp only at hl39 F14 ⊢
 obtain _ | fu:=fu
 · rw [zdo] at F14;cases F14
 rw [zdo] at F14
 refine zb (za ?_)
 refine s_fa zF ?_
 refine zu yA24 ?_
 refine s_mv ?_
 obtain ⟨v40,V40,F15⟩:=zc F14
 refine zK Form.row V40 (Form.row_eq _) yE24 ?_
 refine zam yA32 yS32 ?_
 refine s_mv ?_
 obtain ⟨v41,V41,F16⟩:=zc F15
 refine zv [] (ih_m_spec_l5Fill fu (by omega) _ _ _ V41) ?_
 refine s_mv ?_
 refine zbf ?_
 refine zbf ?_
 refine zU yZ32 ?_
 refine zac yS32 ?_
 refine s_as ?_
 refine zf (zd (zb (za ?_)))
 refine s_mv ?_
 refine zI yA32 yS32 ?_
 obtain ⟨v42,V42,F17⟩:=zc F16
 refine zv [] (ziE fu _ _ V42) ?_
 refine zJ rfl ?_
 refine s_as ?_
 refine zf (zd (zb ?_))
 refine zbb (α:=Nat × Bool) [115,116,117,118,119,120] [] [] (fun a=>[(120,.t (.sc (.bool a.2)))]) (fun a=>[]) (fun a=>a.1≤fu∧zcA a.1 x1 x2 g10 g22 g27 g30 g31 g32 v41 v42 a.2=some r) ?_ ?_
 refine za ?_
 refine s_mv ?_
 refine zaY ?_
 refine s_mv ?_
 refine zp _ 117 F17 ?_ ?_<;>intro C43 F18
 refine r_no rfl (r_no rfl ?_)
 refine zA ?_
 refine zf ?_
 exact s_jn (fu,true) ⟨by first | omega | (dsimp only;omega),F18⟩
 refine s_mv ?_
 refine s_gt ?_
 refine zz ?_
 refine zf ?_
 exact s_jn (fu,(decide (400 < (w64 (g30+v42))))) ⟨by first | omega | (dsimp only;omega),F18⟩
 clear F17
 rintro ⟨fu,g44⟩ ⟨hl45,F18⟩
 dsimp only at hl45 F18 ⊢
 obtain _ | fu:=fu
 · rw [zcA] at F18;cases F18
 rw [zcA] at F18
 refine zm F18 ?_ ?_<;>intro C46 F19
 refine zb (za ?_)
 refine zI yA32 yS32 ?_
 refine zac yS32 ?_
 refine s_as ?_
 refine zf (zd (zh (zg (zj (zg (zw (zj (zj (zg (zw (zj (zg (zn ?_)))))))))))))
 cases F19
 exact z4 [] [] (by rw [Tryz.results46];exact (zat (by conv=>lhs;whnf) (by conv=>lhs;whnf) yA32 yS32 rfl (zai (by conv=>lhs;whnf) zaf)))
 refine zi (zd (za ?_))
 refine s_fa zF ?_
 refine zu yA24 ?_
 refine zI yA32 yS32 ?_
 refine s_bs Form.row [v41.1] yP24 yR32 ?_
 obtain ⟨hk47,F20⟩:=zad F19
 refine zek Form.row (fun y=>Form.row_len y) hk47 yP24 ?_
 refine s_fa zF ?_
 refine zia yS24 ?_
 refine zf (zW (zd (za ?_)))
 refine s_mv ?_
 refine zJ rfl ?_
 refine s_as ?_
 refine zf ?_
 exact s_rn (fu,(w64 (g30+v42)),(w64 (g31+1)),(g32++[v41.1])) ⟨by first | omega | (dsimp only;omega),F20⟩ [(5100,126)]
 refine zy (zq (zo (zr (zW (zd (za ?_))))))
 refine s_mv ?_
 refine zJ rfl ?_
 refine s_as ?_
 refine zf ?_
 exact s_rn (fu,(w64 (g10+1)),g30,g32) ⟨by first | omega | (dsimp only;omega),F13⟩ [(5040,5100)]
 refine zy (zq (zo (zr (zd (zb (za ?_))))))
 refine zI yA32 yS32 ?_
 refine zac yS32 ?_
 refine s_as ?_
 refine zf (zd (zh (zn ?_)))
 cases F5
 exact z4 [] [45,5040] (by rw [Tryz.results46];exact (zat (by conv=>lhs;whnf) (by conv=>lhs;whnf) yA32 yS32 rfl (zai (by conv=>lhs;whnf) zaf)))
theorem m_spec_l5Fill_all (fuel:Nat):zgr fuel:=by
 induction fuel using Nat.strongRecOn with
 | _ N ih =>
   cases N with
   | zero=>exact (by intro x1 x2 r h;rw [zdA] at h;cases h)
   | succ fu=>exact m_spec_l5Fill_st fu (fun k hk=>(ih k (by omega)))
theorem m_spec_l5Fill_ok (fuel:Nat):zgr fuel:=(m_spec_l5Fill_all fuel)
def zi5 (fuel:Nat):Prop:=∀ (x1:(List Int)) (r:((List Bind) × (List Rule) × (List Form) × Form)),zdw fuel x1=some r→AC Tryz.prog 12 [.t (.sl (x1.map rB))] noOb (.tp [.t (.sl (r.1.map Bind.row)),.t (.sl (r.2.1.map Rule.row)),.t (.sl (r.2.2.1.map Form.row)),.ag [.t (.sc (.int .i64 r.2.2.2.kind)),.t (.sc (.str r.2.2.2.name)),.t (.sc (.int .i64 r.2.2.2.n)),.t (.sl (r.2.2.2.scopes.map rI)),.t (.sl (r.2.2.2.kids.map Form.row))]]) noOb
theorem zi4 (fuel:Nat):zi5 fuel:=by
 intro x1 r F0
 unfold zdw at F0
 refine AC_i [.t (.sl (r.1.map Bind.row)),.t (.sl (r.2.1.map Rule.row)),.t (.sl (r.2.2.1.map Form.row)),.ag [.t (.sc (.int .i64 r.2.2.2.kind)),.t (.sc (.str r.2.2.2.name)),.t (.sc (.int .i64 r.2.2.2.n)),.t (.sl (r.2.2.2.scopes.map rI)),.t (.sl (r.2.2.2.kids.map Form.row))]] Tryz.func12 rfl Tryz.ntmps12 ?_
 intro C hC
 refine zb (za ?_)
 iterate 3 refine s_as ?_
 refine zU yZ32 ?_
 refine zf (zd (zb (za ?_)))
 refine s_mv ?_
 obtain ⟨v1,V1,F1⟩:=zc F0
 refine zY [(9300,2011)] [] _ _ (m_spec_l5Case_ok fuel _ _ V1) ?_
 refine s_mv ?_
 iterate 3 refine zbf ?_
 refine zU yZ32 ?_
 refine s_as ?_
 refine s_as ?_
 refine zac yS32 ?_
 refine zf (zd (zb ?_))
 refine zO yMix (by kernel_rfl) ?_
 refine s_bs Bind.row ([]:List Bind) yP30 yR117 ?_
 refine s_mv ?_
 refine s_mv ?_
 refine zI yA32 yS32 ?_
 iterate 3 refine s_as ?_
 refine zac yS32 ?_
 refine zae (by kernel_rfl) ?_
 refine zd (zh (zn ?_))
 cases F1
 exact z4 [] [15,2011] (by rw [Tryz.results12];exact (zai (by conv=>lhs;whnf) (zai (by conv=>lhs;whnf) (zai (by conv=>lhs;whnf) (zat (by conv=>lhs;whnf) (by conv=>lhs;whnf) yA32 yS32 rfl zaf)))))
def ziJ (fuel:Nat):Prop:=∀ (x1:(List Int)) (r:((List Bind) × (List Rule) × (List Form) × Form)),zda fuel x1=some r→AC Tryz.prog 24 [.t (.sl (x1.map rB))] noOb (.tp [.t (.sl (r.1.map Bind.row)),.t (.sl (r.2.1.map Rule.row)),.t (.sl (r.2.2.1.map Form.row)),.ag [.t (.sc (.int .i64 r.2.2.2.kind)),.t (.sc (.str r.2.2.2.name)),.t (.sc (.int .i64 r.2.2.2.n)),.t (.sl (r.2.2.2.scopes.map rI)),.t (.sl (r.2.2.2.kids.map Form.row))]]) noOb
theorem ziI (fuel:Nat):ziJ fuel:=by
 intro x1 r F0
 unfold zda at F0
 refine AC_i [.t (.sl (r.1.map Bind.row)),.t (.sl (r.2.1.map Rule.row)),.t (.sl (r.2.2.1.map Form.row)),.ag [.t (.sc (.int .i64 r.2.2.2.kind)),.t (.sc (.str r.2.2.2.name)),.t (.sc (.int .i64 r.2.2.2.n)),.t (.sl (r.2.2.2.scopes.map rI)),.t (.sl (r.2.2.2.kids.map Form.row))]] Tryz.func24 rfl Tryz.ntmps24 ?_
 intro C hC
 refine zb (za ?_)
 iterate 3 refine s_as ?_
 refine zU yZ32 ?_
 refine zf (zd (zb (za ?_)))
 refine s_mv ?_
 obtain ⟨v1,V1,F1⟩:=zc F0
 refine zv [] (zi4 fuel _ _ V1) ?_
 iterate 4 refine zbf ?_
 iterate 3 refine s_as ?_
 refine zac yS32 ?_
 refine zf (zd (zh (zn ?_)))
 cases F1
 exact z4 [] [] (by rw [Tryz.results24];exact (zai (by conv=>lhs;whnf) (zai (by conv=>lhs;whnf) (zai (by conv=>lhs;whnf) (zat (by conv=>lhs;whnf) (by conv=>lhs;whnf) yA32 yS32 rfl zaf)))))
end Go.Abs
