/- A part of the proof: what the functions that the law calls answer, as pure values. -/
import Derived.Test.YtjjjnhpghhamkaaGreatK8d582f2e31e6
import Derived.Test.YtjjjnhpghhamkaaGreatK135f79d6a7aa
import Derived.Test.YtjjjnhpghhamkaaGreatK4ee70f842008
import Derived.Test.YtjjjnhpghhamkaaGreatK06634278733b
import Derived.Test.YtjjjnhpghhamkaaGreatK8faf616840a9
import Derived.Test.YtjjjnhpghhamkaaGreatK17021f080395
import Derived.Test.YtjjjnhpghhamkaaGreatK48decf646e3b
import Derived.Test.YtjjjnhpghhamkaaGreatKfe938720da0d
import Derived.Test.YtjjjnhpghhamkaaGreatKdce879462e48
set_option linter.unusedSimpArgs false
set_option linter.unusedVariables false
set_option maxRecDepth 100000
set_option maxHeartbeats 4000000
namespace Go.Abs
open Go.Proofs
theorem m_impl_match_1_st (fu:Nat) (ih_m_impl_match:∀ k,k≤fu→zfR k) (ih_m_impl_match_1:∀ k,k≤fu→zf5 k):zf5 (fu+1):=by
 intro x1 x2 o1 o2 o3 r F0
 rw [zdL] at F0
 refine AC_i [.t (.sc (.bool r.1))] Tryz.func123 rfl Tryz.ntmps123 ?_
 intro C hC
 refine zb (za ?_)
 refine zaN ?_
 refine zaN ?_
 refine s_as ?_
 refine zf (zd (zb (za ?_)))
 refine zu yA23 ?_
 refine zG yA27 yS27 ?_
 refine zu yA25 ?_
 refine zG yA27 yS27 ?_
 obtain ⟨v1,V1,F1⟩:=zc F0
 refine zv [] (ih_m_impl_match fu (by omega) _ _ _ _ _ V1) ?_
 refine s_mv ?_
 refine za4 ?_
 refine za4 ?_
 refine s_as ?_
 refine s_as ?_
 refine zf (zd (zb (za ?_)))
 refine zu yA30 ?_
 refine s_mv ?_
 obtain ⟨hk2,F2⟩:=zac F1
 refine zel Hit.row (fun y=>Hit.row_len y) hk2 yP30 ?_
 refine zab yS30 ?_
 refine zf (zd (zb (za ?_)))
 refine s_mv ?_
 refine s_as ?_
 refine zf (zd ?_)
 refine zeV 9002 20 10460 [.ar 10460] ?_
 refine zh (zn ?_)
 cases F2
 exact zk _ [] Tryz.results123
theorem m_impl_match_all (fuel:Nat):zfR fuel∧zf5 fuel:=by
 induction fuel using Nat.strongRecOn with
 | _ N ih =>
   cases N with
   | zero=>exact ⟨(by intro x1 x2 x3 x4 r h;rw [zcN] at h;cases h),(by intro x1 x2 o1 o2 o3 r h;rw [zdL] at h;cases h)⟩
   | succ fu=>exact ⟨m_impl_match_st fu (fun k hk=>(ih k (by omega)).1) (fun k hk=>(ih k (by omega)).2),m_impl_match_1_st fu (fun k hk=>(ih k (by omega)).1) (fun k hk=>(ih k (by omega)).2)⟩
theorem zh5 (fuel:Nat):zfR fuel:=(m_impl_match_all fuel).1
def m_impl_MatchPattern_AC (fuel:Nat):Prop:=∀ (x1:(List Bind)) (x2:Form) (x3:(List Form)) (x4:Form) (r:((List Hit) × Bool)),zdY fuel x1 x2 x3 x4=some r→AC Tryz.prog 14 [.t (.sl (x1.map Bind.row)),.ag [.t (.sc (.int .i64 x2.kind)),.t (.sc (.str x2.name)),.t (.sc (.int .i64 x2.n)),.t (.sl (x2.scopes.map rI)),.t (.sl (x2.kids.map Form.row))],.t (.sl (x3.map Form.row)),.ag [.t (.sc (.int .i64 x4.kind)),.t (.sc (.str x4.name)),.t (.sc (.int .i64 x4.n)),.t (.sl (x4.scopes.map rI)),.t (.sl (x4.kids.map Form.row))]] noOb (.tp [.t (.sl (r.1.map Hit.row)),.t (.sc (.bool r.2))]) noOb
theorem m_impl_MatchPattern_ok (fuel:Nat):m_impl_MatchPattern_AC fuel:=by
 intro x1 x2 x3 x4 r F0
 unfold zdY at F0
 refine AC_i [.t (.sl (r.1.map Hit.row)),.t (.sc (.bool r.2))] Tryz.func14 rfl Tryz.ntmps14 ?_
 intro C hC
 refine zb (za ?_)
 refine zaN ?_
 refine zaN ?_
 refine s_as ?_
 refine s_as ?_
 refine zf (zd (zb ?_))
 refine za2 (α:=Nat × Bool) [12,13,14,15,16,17,18,19,20,21,22,23,24,25] [] [] (fun a=>[(25,.t (.sc (.bool a.2)))]) (fun a=>[]) (fun a=>a.1≤fuel∧zaJ a.1 x1 x2 x3 x4 a.2=some r) ?_ ?_
 refine za ?_
 refine s_mv ?_
 obtain ⟨v1,V1,F1⟩:=zc F0
 refine zv [] (zew fuel _ _ V1) ?_
 refine zaG ?_
 refine s_mv ?_
 refine zo _ 15 F1 ?_ ?_<;>intro C2 F2
 iterate 4 refine r_no rfl ?_
 refine zA ?_
 refine s_mv ?_
 iterate 3 refine r_no rfl ?_
 refine zA ?_
 refine zf ?_
 exact s_jn (fuel,true) ⟨by first | omega | (dsimp only;omega),F2⟩
 refine zG yA27 yS27 ?_
 refine s_mv ?_
 obtain ⟨v3,V3,F3⟩:=zc F2
 refine zv [] (zhg fuel _ _ _ V3) ?_
 refine zaG ?_
 refine zy ?_
 refine s_mv ?_
 refine zo _ 21 F3 ?_ ?_<;>intro C4 F4
 iterate 3 refine r_no rfl ?_
 refine zA ?_
 refine zf ?_
 exact s_jn (fuel,true) ⟨by first | omega | (dsimp only;omega),F4⟩
 refine zG yA27 yS27 ?_
 obtain ⟨v5,V5,F5⟩:=zc F4
 refine zv [] (zbO fuel _ _ V5) ?_
 refine zaG ?_
 refine zy ?_
 refine zf ?_
 exact s_jn (fuel,(!v5)) ⟨by first | omega | (dsimp only;omega),F5⟩
 clear F0
 rintro ⟨fu,g6⟩ ⟨hl7,F1⟩
 dsimp only at hl7 F1 ⊢
 obtain _ | fu:=fu
 · rw [zaJ] at F1;cases F1
 rw [zaJ] at F1
 refine zm F1 ?_ ?_<;>intro C8 F2
 refine zb (za ?_)
 refine s_as ?_
 refine s_as ?_
 refine zf (zd (zh (zg (zn ?_))))
 cases F2
 exact zk [] [] Tryz.results14
 refine zi (zd (zb (za ?_)))
 refine s_mv ?_
 refine zG yA27 yS27 ?_
 refine s_mv ?_
 refine zG yA27 yS27 ?_
 obtain ⟨v9,V9,F3⟩:=zc F2
 refine zv [] (zh5 fu _ _ _ _ _ V9) ?_
 refine s_mv ?_
 refine za4 ?_
 refine za4 ?_
 refine s_as ?_
 refine s_as ?_
 refine zf (zd (zb (zb (za ?_))))
 refine s_mv ?_
 refine zaG ?_
 refine zf (zd ?_)
 refine zm F3 ?_ ?_<;>intro C10 F4
 refine zb (za ?_)
 refine s_as ?_
 refine s_as ?_
 refine zf (zd (zh (zg (zn ?_))))
 cases F4
 exact zk [] [] Tryz.results14
 refine zi (zd (zb (za ?_)))
 refine s_mv ?_
 refine s_as ?_
 refine s_as ?_
 refine zf (zd (zh (zn ?_)))
 cases F4
 exact zk [] [] Tryz.results14
def m_spec_l1Ints_AC (fuel:Nat):Prop:=∀ (x1:(List Int)) (x2:(List Int)) (r:Bool),zf1 fuel x1 x2=some r→AC Tryz.prog 127 [.t (.sl (x1.map rI)),.t (.sl (x2.map rI))] noOb (.t (.sc (.bool r))) noOb
theorem m_spec_l1Ints_ok (fuel:Nat):m_spec_l1Ints_AC fuel:=by
 intro x1 x2 r F0
 unfold zf1 at F0
 refine AC_i [.t (.sc (.bool r))] Tryz.func127 rfl Tryz.ntmps127 ?_
 intro C hC
 refine zb (za ?_)
 refine s_as ?_
 refine zf (zd (zb (zb (za ?_))))
 refine s_mv ?_
 refine zC yU24 ?_
 refine s_mv ?_
 refine zC yU24 ?_
 refine s_ne ?_
 refine zf (zd ?_)
 refine zm F0 ?_ ?_<;>intro C1 F1
 refine zb (za ?_)
 refine s_as ?_
 refine zf (zd (zh (zg (zn ?_))))
 cases F1
 exact zk [] [] Tryz.results127
 refine zi (zd (zb (zb (za ?_))))
 refine s_as ?_
 refine zf (zd (zl ?_))
 refine zaP (β:=Int) [4,5,11,12,13,14,15,16,17,18,19,20,21,22,23,24,25] [] [] (fun a=>[(5,.t (.sc (.int .i64 a.2)))]) (fun a=>[]) (fun a=>a.1≤fuel∧zdt a.1 x1 x2 a.2=some r∧0≤a.2) (fuel,0) ⟨Nat.le_refl _,F1,by simp⟩ ?_
 clear F1
 rintro ⟨fu,g2⟩ ⟨hl3,F2,hn_g2⟩
 dsimp only at hl3 F2 hn_g2 ⊢
 obtain _ | fu:=fu
 · rw [zdt] at F2;cases F2
 rw [zdt] at F2
 refine zb (zb (za ?_))
 refine s_mv ?_
 refine s_mv ?_
 refine zC yU24 ?_
 refine s_lt ?_
 refine zf (zd ?_)
 refine zm F2 ?_ ?_<;>intro C4 F3
 refine zM 0 (fun B5=>?_)
 refine zi (zd (zb (zl (zb ?_))))
 refine zP yMix (by kernel_rfl) ?_
 refine s_mv ?_
 refine s_mv ?_
 obtain ⟨v6,V6,F4⟩:=zc F3
 refine zK rI V6 rfl yE24 ?_
 refine zu yA3 ?_
 refine s_mv ?_
 refine s_mv ?_
 obtain ⟨v7,V7,F5⟩:=zc F4
 refine zK rI V7 rfl yE24 ?_
 refine zu yA3 ?_
 refine s_ne ?_
 refine zah (by kernel_rfl) ?_
 refine zd ?_
 refine zm F5 ?_ ?_<;>intro C8 F6
 refine zb (za ?_)
 refine s_as ?_
 refine zf (zd (zh (zj (zg (zw (zj (zg (zn ?_))))))))
 cases F6
 exact zk [] [] Tryz.results127
 refine zi (zW (zd (za ?_)))
 refine s_mv ?_
 refine zJ (zar C4 B5 hn_g2) ?_
 refine s_as ?_
 refine zf ?_
 exact s_rn (fu,(g2+1)) ⟨by first | omega | (dsimp only;omega),F6,by first | omega | (dsimp only;omega)⟩
 refine zz (zq (zp (zr (zd (zb (za ?_))))))
 refine s_as ?_
 refine zf (zd (zh (zn ?_)))
 cases F3
 exact zk [] [] Tryz.results127
def m_spec_BindsValid_AC (fuel:Nat):Prop:=∀ (x1:(List Bind)) (r:Bool),zeB fuel x1=some r→AC Tryz.prog 62 [.t (.sl (x1.map Bind.row))] noOb (.t (.sc (.bool r))) noOb
theorem m_spec_BindsValid_ok (fuel:Nat):m_spec_BindsValid_AC fuel:=by
 intro x1 r F0
 unfold zeB at F0
 refine AC_i [.t (.sc (.bool r))] Tryz.func62 rfl Tryz.ntmps62 ?_
 intro C hC
 refine zb (za ?_)
 refine s_as ?_
 refine zf (zd (zb (zb (za ?_))))
 refine s_as ?_
 refine zf (zd (zl ?_))
 refine zaP (β:=Int) [2,3,4,5,6,7,8,9,10,11,12,13,14,15,16,17,18,19,20,21,22,23,24,25,26,27,28,29,30,31,32,33,34,35,36,37,38,39,40,41,42,43,44,45,46,47,48,49,50,51,52,53,54,55,56,57,58,59,60,61,62,63,64,65,66,67,68,69,70,71,72,73,74,75] [] [] (fun a=>[(2,.t (.sc (.bool false))),(3,.t (.sc (.int .i64 a.2)))]) (fun a=>[]) (fun a=>a.1≤fuel∧zbx a.1 x1 a.2=some r) (fuel,0) ⟨Nat.le_refl _,F0⟩ ?_
 clear F0
 rintro ⟨fu,g1⟩ ⟨hl2,F1⟩
 dsimp only at hl2 F1 ⊢
 obtain _ | fu:=fu
 · rw [zbx] at F1;cases F1
 rw [zbx] at F1
 refine zb ?_
 refine za2 (α:=Nat × Bool) [5,6,7,8,9,10,11,12] [] [] (fun a=>[(12,.t (.sc (.bool a.2)))]) (fun a=>[]) (fun a=>a.1≤fu∧zbz a.1 x1 g1 a.2=some r) ?_ ?_
 refine za ?_
 refine s_mv ?_
 refine s_mv ?_
 refine zC yU23 ?_
 refine s_lt ?_
 refine s_mv ?_
 refine zo _ 9 F1 ?_ ?_<;>intro C3 F2
 refine s_mv ?_
 refine s_le ?_
 refine zA ?_
 refine zf ?_
 exact s_jn (fu,(decide (g1≤60))) ⟨by first | omega | (dsimp only;omega),F2⟩
 refine r_no rfl (r_no rfl ?_)
 refine zy ?_
 refine zf ?_
 exact s_jn (fu,false) ⟨by first | omega | (dsimp only;omega),F2⟩
 clear F1
 rintro ⟨fu,g4⟩ ⟨hl5,F2⟩
 dsimp only at hl5 F2 ⊢
 obtain _ | fu:=fu
 · rw [zbz] at F2;cases F2
 rw [zbz] at F2
 refine zm F2 ?_ ?_<;>intro C6 F3
 refine zi (zd (zb (zl (zb ?_))))
 refine za2 (α:=Nat × Bool) [15,16,17,18,19,20,21,22,23,24,25,26,27,28,29,30,31,32,33,34,35,36,37,38,39,40,41,42,43,44,45,46] [] [] (fun a=>[(46,.t (.sc (.bool a.2)))]) (fun a=>[]) (fun a=>a.1≤fu∧zaM a.1 x1 g1 a.2=some r) ?_ ?_
 refine za ?_
 refine s_mv ?_
 refine s_mv ?_
 obtain ⟨v7,V7,F4⟩:=zc F3
 refine zK Bind.row V7 (Bind.row_eq _) yE23 ?_
 refine s_fa yF93_0 ?_
 refine zu yA9 ?_
 obtain ⟨v8,V8,F5⟩:=zc F4
 refine zv [] (zh3 fu _ _ V8) ?_
 refine zaG ?_
 refine s_mv ?_
 refine zo _ 22 F5 ?_ ?_<;>intro C9 F6
 iterate 7 refine r_no rfl ?_
 refine zA ?_
 refine s_mv ?_
 iterate 6 refine r_no rfl ?_
 refine zA ?_
 refine s_mv ?_
 iterate 6 refine r_no rfl ?_
 refine zA ?_
 refine zf ?_
 exact s_jn (fu,true) ⟨by first | omega | (dsimp only;omega),F6⟩
 refine s_mv ?_
 refine s_mv ?_
 obtain ⟨v10,V10,F7⟩:=zc F6
 refine zK Bind.row V10 (Bind.row_eq _) yE23 ?_
 refine s_fa yF93_1 ?_
 refine zu yA24 ?_
 obtain ⟨v11,V11,F8⟩:=zc F7
 refine zv [] (zio fu _ _ V11) ?_
 refine zaG ?_
 refine zy ?_
 refine s_mv ?_
 refine zo _ 31 F8 ?_ ?_<;>intro C12 F9
 iterate 6 refine r_no rfl ?_
 refine zA ?_
 refine s_mv ?_
 iterate 6 refine r_no rfl ?_
 refine zA ?_
 refine zf ?_
 exact s_jn (fu,true) ⟨by first | omega | (dsimp only;omega),F9⟩
 refine s_mv ?_
 refine s_mv ?_
 obtain ⟨v13,V13,F10⟩:=zc F9
 refine zK Bind.row V13 (Bind.row_eq _) yE23 ?_
 refine s_fa yF93_2 ?_
 refine zu yA3 ?_
 refine s_lt ?_
 refine zy ?_
 refine s_mv ?_
 refine zo _ 39 F10 ?_ ?_<;>intro C14 F11
 iterate 6 refine r_no rfl ?_
 refine zA ?_
 refine zf ?_
 exact s_jn (fu,true) ⟨by first | omega | (dsimp only;omega),F11⟩
 refine s_mv ?_
 refine s_mv ?_
 obtain ⟨v15,V15,F12⟩:=zc F11
 refine zK Bind.row V15 (Bind.row_eq _) yE23 ?_
 refine s_fa yF93_2 ?_
 refine zu yA3 ?_
 refine s_gt ?_
 refine zy ?_
 refine zf ?_
 exact s_jn (fu,(decide (999 < v15.id))) ⟨by first | omega | (dsimp only;omega),F12⟩
 clear F3
 rintro ⟨fu,g16⟩ ⟨hl17,F4⟩
 dsimp only at hl17 F4 ⊢
 obtain _ | fu:=fu
 · rw [zaM] at F4;cases F4
 rw [zaM] at F4
 refine zm F4 ?_ ?_<;>intro C18 F5
 refine zb (za ?_)
 refine s_as ?_
 refine zf (zd (zh (zg (zj (zg (zw (zj (zg (zn ?_)))))))))
 cases F5
 exact zk [] [] Tryz.results62
 refine zi (zd (zb (za ?_)))
 refine s_as ?_
 refine zf (zd (zl ?_))
 refine zaP (β:=Int) [2,4,47,48,49,50,51,52,53,54,55,56,57,58,59,60,61,62,63,64,65,66,67,68,69,70,71,72,73,74,75] [] [] (fun a=>[(2,.t (.sc (.bool false))),(4,.t (.sc (.int .i64 a.2)))]) (fun a=>[]) (fun a=>a.1≤fu∧zbw a.1 x1 g1 a.2=some r) (fu,0) ⟨Nat.le_refl _,F5⟩ ?_
 clear F5
 rintro ⟨fu,g19⟩ ⟨hl20,F6⟩
 dsimp only at hl20 F6 ⊢
 obtain _ | fu:=fu
 · rw [zbw] at F6;cases F6
 rw [zbw] at F6
 refine zb (zb (za ?_))
 refine s_mv ?_
 refine s_mv ?_
 refine s_lt ?_
 refine zf (zd ?_)
 refine zm F6 ?_ ?_<;>intro C21 F7
 refine zi (zd (zb (zl ?_)))
 refine za2 (α:=Nat × Bool) [52,53,54,55,56,57,58,59,60,61,62,63,64,65,66,67,68,69,70,71,72,73,74,75] [] [] (fun a=>[(75,.t (.sc (.bool a.2)))]) (fun a=>[]) (fun a=>a.1≤fu∧zby a.1 x1 g1 g19 a.2=some r) ?_ ?_
 refine zP yMix (by kernel_rfl) ?_
 refine s_mv ?_
 refine s_mv ?_
 obtain ⟨v22,V22,F8⟩:=zc F7
 refine zK Bind.row V22 (Bind.row_eq _) yE23 ?_
 refine s_fa yF93_0 ?_
 refine zu yA9 ?_
 refine s_mv ?_
 refine s_mv ?_
 obtain ⟨v23,V23,F9⟩:=zc F8
 refine zK Bind.row V23 (Bind.row_eq _) yE23 ?_
 refine s_fa yF93_0 ?_
 refine zu yA9 ?_
 refine zhv ?_
 refine s_mv ?_
 refine zo _ 63 F9 ?_ ?_<;>intro C24 F10
 refine s_mv ?_
 refine s_mv ?_
 obtain ⟨v25,V25,F11⟩:=zc F10
 refine zK Bind.row V25 (Bind.row_eq _) yE23 ?_
 refine s_fa yF93_1 ?_
 refine zu yA24 ?_
 refine s_mv ?_
 refine s_mv ?_
 obtain ⟨v26,V26,F12⟩:=zc F11
 refine zK Bind.row V26 (Bind.row_eq _) yE23 ?_
 refine s_fa yF93_1 ?_
 refine zu yA24 ?_
 obtain ⟨v27,V27,F13⟩:=zc F12
 refine zv [] (m_spec_l1Ints_ok fu _ _ _ V27) ?_
 refine zA ?_
 refine zah (by kernel_rfl) ?_
 exact s_jn (fu,v27) ⟨by first | omega | (dsimp only;omega),F13⟩
 iterate 11 refine r_no rfl ?_
 refine zy ?_
 refine zah (by kernel_rfl) ?_
 exact s_jn (fu,false) ⟨by first | omega | (dsimp only;omega),F10⟩
 clear F7
 rintro ⟨fu,g28⟩ ⟨hl29,F8⟩
 dsimp only at hl29 F8 ⊢
 obtain _ | fu:=fu
 · rw [zby] at F8;cases F8
 rw [zby] at F8
 refine zm F8 ?_ ?_<;>intro C30 F9
 refine zb (za ?_)
 refine s_as ?_
 refine zf (zd (zh (zj (zg (zw (zj (zj (zg (zw (zj (zg (zn ?_))))))))))))
 cases F9
 exact zk [] [] Tryz.results62
 refine zi (zW (zd (za ?_)))
 refine s_mv ?_
 refine zJ rfl ?_
 refine s_as ?_
 refine zf ?_
 exact s_rn (fu,(w64 (g19+1))) ⟨by first | omega | (dsimp only;omega),F9⟩
 refine zz (zq (zp (zr (zW (zd (za ?_))))))
 refine s_mv ?_
 refine zJ rfl ?_
 refine s_as ?_
 refine zf ?_
 exact s_rn (fu,(w64 (g1+1))) ⟨by first | omega | (dsimp only;omega),F7⟩
 refine zz (zq (zp (zr (zd (zb (za ?_))))))
 refine s_mv ?_
 refine zC yU23 ?_
 refine s_le ?_
 refine s_as ?_
 refine zf (zd (zh (zn ?_)))
 cases F3
 exact zk [] [] Tryz.results62
def m_spec_l3Is_AC (fuel:Nat):Prop:=∀ (x1:Form) (r:Bool),zh2 fuel x1=some r→AC Tryz.prog 181 [.ag [.t (.sc (.int .i64 x1.kind)),.t (.sc (.str x1.name)),.t (.sc (.int .i64 x1.n)),.t (.sl (x1.scopes.map rI)),.t (.sl (x1.kids.map Form.row))]] noOb (.t (.sc (.bool r))) noOb
theorem m_spec_l3Is_ok (fuel:Nat):m_spec_l3Is_AC fuel:=by
 intro x1 r F0
 unfold zh2 at F0
 refine AC_i [.t (.sc (.bool r))] Tryz.func181 rfl Tryz.ntmps181 ?_
 intro C hC
 refine zb (za ?_)
 refine zaN ?_
 refine s_as ?_
 refine zf (zd (zb (za ?_)))
 refine s_fa zc1 ?_
 refine zu yA3 ?_
 refine s_eq ?_
 refine s_mv ?_
 refine zo _ 6 F0 ?_ ?_<;>intro C1 F1
 refine zG yA27 yS27 ?_
 obtain ⟨v2,V2,F2⟩:=zc F1
 refine zv [] (zcf fuel _ _ V2) ?_
 refine zA ?_
 refine s_as ?_
 refine zf (zd (zh (zn ?_)))
 cases F2
 exact zk [] [] Tryz.results181
 refine r_no rfl (r_no rfl ?_)
 refine zy ?_
 refine s_as ?_
 refine zf (zd (zh (zn ?_)))
 cases F1
 exact zk [] [] Tryz.results181
def zfx (fuel:Nat):Prop:=∀ (x1:Form) (x2:Form) (r:Bool),zaT fuel x1 x2=some r→AC Tryz.prog 136 [.ag [.t (.sc (.int .i64 x1.kind)),.t (.sc (.str x1.name)),.t (.sc (.int .i64 x1.n)),.t (.sl (x1.scopes.map rI)),.t (.sl (x1.kids.map Form.row))],.ag [.t (.sc (.int .i64 x2.kind)),.t (.sc (.str x2.name)),.t (.sc (.int .i64 x2.n)),.t (.sl (x2.scopes.map rI)),.t (.sl (x2.kids.map Form.row))]] noOb (.t (.sc (.bool r))) noOb
theorem m_spec_FormSame_st (fu:Nat) (ih_m_spec_FormSame:∀ k,k≤fu→zfx k):zfx (fu+1):=by
 intro x1 x2 r F0
 rw [zaT] at F0
 refine AC_i [.t (.sc (.bool r))] Tryz.func136 rfl Tryz.ntmps136 ?_
 intro C hC
 refine zb (za ?_)
 refine zaN ?_
 refine zaN ?_
 refine s_as ?_
 refine zf (zd (zb (zb (za ?_))))
 refine s_fa zc1 ?_
 refine zu yA3 ?_
 refine s_fa zc1 ?_
 refine zu yA3 ?_
 refine s_ne ?_
 refine s_mv ?_
 refine zo _ 11 F0 ?_ ?_<;>intro C1 F1
 iterate 5 refine r_no rfl ?_
 refine zA ?_
 refine s_mv ?_
 iterate 5 refine r_no rfl ?_
 refine zA ?_
 refine s_mv ?_
 iterate 6 refine r_no rfl ?_
 refine zA ?_
 refine s_mv ?_
 iterate 7 refine r_no rfl ?_
 refine zA ?_
 refine zf (zd (zT rfl (zb (za ?_))))
 refine s_as ?_
 refine zf (zd (zh (zg (zn ?_))))
 cases F1
 exact zk [] [] Tryz.results136
 refine s_fa zcp ?_
 refine zu yA9 ?_
 refine s_fa zcp ?_
 refine zu yA9 ?_
 refine s_neS ?_
 refine zy ?_
 refine s_mv ?_
 refine zo _ 18 F1 ?_ ?_<;>intro C2 F2
 iterate 5 refine r_no rfl ?_
 refine zA ?_
 refine s_mv ?_
 iterate 6 refine r_no rfl ?_
 refine zA ?_
 refine s_mv ?_
 iterate 7 refine r_no rfl ?_
 refine zA ?_
 refine zf (zd (zT rfl (zb (za ?_))))
 refine s_as ?_
 refine zf (zd (zh (zg (zn ?_))))
 cases F2
 exact zk [] [] Tryz.results136
 refine s_fa zhu ?_
 refine zu yA3 ?_
 refine s_fa zhu ?_
 refine zu yA3 ?_
 refine s_ne ?_
 refine zy ?_
 refine s_mv ?_
 refine zo _ 25 F2 ?_ ?_<;>intro C3 F3
 iterate 6 refine r_no rfl ?_
 refine zA ?_
 refine s_mv ?_
 iterate 7 refine r_no rfl ?_
 refine zA ?_
 refine zf (zd (zT rfl (zb (za ?_))))
 refine s_as ?_
 refine zf (zd (zh (zg (zn ?_))))
 cases F3
 exact zk [] [] Tryz.results136
 refine s_fa zf9 ?_
 refine zu yA24 ?_
 refine s_fa zf9 ?_
 refine zu yA24 ?_
 obtain ⟨v4,V4,F4⟩:=zc F3
 refine zv [] (m_spec_l1Ints_ok fu _ _ _ V4) ?_
 refine zaG ?_
 refine zy ?_
 refine s_mv ?_
 refine zo _ 33 F4 ?_ ?_<;>intro C5 F5
 iterate 7 refine r_no rfl ?_
 refine zA ?_
 refine zf (zd (zT rfl (zb (za ?_))))
 refine s_as ?_
 refine zf (zd (zh (zg (zn ?_))))
 cases F5
 exact zk [] [] Tryz.results136
 refine s_fa zF ?_
 refine zu yA25 ?_
 refine zC yU25 ?_
 refine s_fa zF ?_
 refine zu yA25 ?_
 refine zC yU25 ?_
 refine s_ne ?_
 refine zy ?_
 refine zf (zd ?_)
 refine zm F5 ?_ ?_<;>intro C6 F6
 refine zb (za ?_)
 refine s_as ?_
 refine zf (zd (zh (zg (zn ?_))))
 cases F6
 exact zk [] [] Tryz.results136
 refine zi (zd (zb (zb (za ?_))))
 refine s_as ?_
 refine zf (zd (zl ?_))
 refine zaP (β:=Int) [4,5,42,43,44,45,46,47,48,49,50,51,52,53,54,55,56,57,58,59,60] [] [] (fun a=>[(5,.t (.sc (.int .i64 a.2)))]) (fun a=>[]) (fun a=>a.1≤fu∧zcs a.1 x1 x2 a.2=some r∧0≤a.2) (fu,0) ⟨Nat.le_refl _,F6,by simp⟩ ?_
 clear F6
 rintro ⟨fu,g7⟩ ⟨hl8,F7,hn_g7⟩
 dsimp only at hl8 F7 hn_g7 ⊢
 obtain _ | fu:=fu
 · rw [zcs] at F7;cases F7
 rw [zcs] at F7
 refine zb (zb (za ?_))
 refine s_mv ?_
 refine s_fa zF ?_
 refine zu yA25 ?_
 refine zC yU25 ?_
 refine s_lt ?_
 refine zf (zd ?_)
 refine zm F7 ?_ ?_<;>intro C9 F8
 refine zM 35 (fun B10=>?_)
 refine zi (zd (zb (zl (zb ?_))))
 refine zP yMix (by kernel_rfl) ?_
 refine s_fa zF ?_
 refine zu yA25 ?_
 refine s_mv ?_
 obtain ⟨v11,V11,F9⟩:=zc F8
 refine zK Form.row V11 (Form.row_eq _) yE25 ?_
 refine zai yA27 yS27 ?_
 refine s_fa zF ?_
 refine zu yA25 ?_
 refine s_mv ?_
 obtain ⟨v12,V12,F10⟩:=zc F9
 refine zK Form.row V12 (Form.row_eq _) yE25 ?_
 refine zai yA27 yS27 ?_
 obtain ⟨v13,V13,F11⟩:=zc F10
 refine zv [] (ih_m_spec_FormSame fu (by omega) _ _ _ V13) ?_
 refine zaG ?_
 refine zah (by kernel_rfl) ?_
 refine zd ?_
 refine zm F11 ?_ ?_<;>intro C14 F12
 refine zb (za ?_)
 refine s_as ?_
 refine zf (zd (zh (zj (zg (zw (zj (zg (zn ?_))))))))
 cases F12
 exact zk [] [] Tryz.results136
 refine zi (zW (zd (za ?_)))
 refine s_mv ?_
 refine zJ (zar C9 B10 hn_g7) ?_
 refine s_as ?_
 refine zf ?_
 exact s_rn (fu,(g7+1)) ⟨by first | omega | (dsimp only;omega),F12,by first | omega | (dsimp only;omega)⟩
 refine zz (zq (zp (zr (zd (zb (za ?_))))))
 refine s_as ?_
 refine zf (zd (zh (zn ?_)))
 cases F8
 exact zk [] [] Tryz.results136
theorem m_spec_FormSame_all (fuel:Nat):zfx fuel:=by
 induction fuel using Nat.strongRecOn with
 | _ N ih =>
   cases N with
   | zero=>exact (by intro x1 x2 r h;rw [zaT] at h;cases h)
   | succ fu=>exact m_spec_FormSame_st fu (fun k hk=>(ih k (by omega)))
theorem zfw (fuel:Nat):zfx fuel:=(m_spec_FormSame_all fuel)
def m_spec_l4In_AC (fuel:Nat):Prop:=∀ (x1:(List Form)) (x2:Form) (r:Bool),zfJ fuel x1 x2=some r→AC Tryz.prog 131 [.t (.sl (x1.map Form.row)),.ag [.t (.sc (.int .i64 x2.kind)),.t (.sc (.str x2.name)),.t (.sc (.int .i64 x2.n)),.t (.sl (x2.scopes.map rI)),.t (.sl (x2.kids.map Form.row))]] noOb (.t (.sc (.bool r))) noOb
theorem zhp (fuel:Nat):m_spec_l4In_AC fuel:=by
 intro x1 x2 r F0
 unfold zfJ at F0
 refine AC_i [.t (.sc (.bool r))] Tryz.func131 rfl Tryz.ntmps131 ?_
 intro C hC
 refine zb (za ?_)
 refine zaN ?_
 refine s_as ?_
 refine zf (zd (zb (zb (za ?_))))
 refine s_as ?_
 refine zf (zd (zl ?_))
 refine zaP (β:=Int) [4,5,6,7,8,9,10,11,12,13,14,15,16,17] [] [] (fun a=>[(5,.t (.sc (.int .i64 a.2)))]) (fun a=>[]) (fun a=>a.1≤fuel∧zdJ a.1 x1 x2 a.2=some r∧0≤a.2) (fuel,0) ⟨Nat.le_refl _,F0,by simp⟩ ?_
 clear F0
 rintro ⟨fu,g1⟩ ⟨hl2,F1,hn_g1⟩
 dsimp only at hl2 F1 hn_g1 ⊢
 obtain _ | fu:=fu
 · rw [zdJ] at F1;cases F1
 rw [zdJ] at F1
 refine zb (zb (za ?_))
 refine s_mv ?_
 refine s_mv ?_
 refine zC yU25 ?_
 refine s_lt ?_
 refine zf (zd ?_)
 refine zm F1 ?_ ?_<;>intro C3 F2
 refine zM 0 (fun B4=>?_)
 refine zi (zd (zb (zl (zb ?_))))
 refine zP yMix (by kernel_rfl) ?_
 refine s_mv ?_
 refine s_mv ?_
 obtain ⟨v5,V5,F3⟩:=zc F2
 refine zK Form.row V5 (Form.row_eq _) yE25 ?_
 refine zai yA27 yS27 ?_
 refine zG yA27 yS27 ?_
 obtain ⟨v6,V6,F4⟩:=zc F3
 refine zv [] (zfw fu _ _ _ V6) ?_
 refine zah (by kernel_rfl) ?_
 refine zd ?_
 refine zm F4 ?_ ?_<;>intro C7 F5
 refine zb (za ?_)
 refine s_as ?_
 refine zf (zd (zh (zj (zg (zw (zj (zg (zn ?_))))))))
 cases F5
 exact zk [] [] Tryz.results131
 refine zi (zW (zd (za ?_)))
 refine s_mv ?_
 refine zJ (zar C3 B4 hn_g1) ?_
 refine s_as ?_
 refine zf ?_
 exact s_rn (fu,(g1+1)) ⟨by first | omega | (dsimp only;omega),F5,by first | omega | (dsimp only;omega)⟩
 refine zz (zq (zp (zr (zd (zb (za ?_))))))
 refine s_as ?_
 refine zf (zd (zh (zn ?_)))
 cases F2
 exact zk [] [] Tryz.results131
def m_spec_l4Literals_AC (fuel:Nat):Prop:=∀ (x1:(List Form)) (r:Bool),zdP fuel x1=some r→AC Tryz.prog 128 [.t (.sl (x1.map Form.row))] noOb (.t (.sc (.bool r))) noOb
theorem zhL (fuel:Nat):m_spec_l4Literals_AC fuel:=by
 intro x1 r F0
 unfold zdP at F0
 refine AC_i [.t (.sc (.bool r))] Tryz.func128 rfl Tryz.ntmps128 ?_
 intro C hC
 refine zb (za ?_)
 refine s_as ?_
 refine zf (zd (zb (zb (za ?_))))
 refine s_as ?_
 refine zf (zd (zl ?_))
 refine zaP (β:=Int) [2,3,4,5,6,7,8,9,10,11,12,13,14,15,16,17,18,19,20,21,22,23,24,25,26,27,28,29,30,31,32,33,34,35,36,37,38,39,40,41,42,43,44,45] [] [] (fun a=>[(3,.t (.sc (.int .i64 a.2)))]) (fun a=>[]) (fun a=>a.1≤fuel∧zbs a.1 x1 a.2=some r) (fuel,0) ⟨Nat.le_refl _,F0⟩ ?_
 clear F0
 rintro ⟨fu,g1⟩ ⟨hl2,F1⟩
 dsimp only at hl2 F1 ⊢
 obtain _ | fu:=fu
 · rw [zbs] at F1;cases F1
 rw [zbs] at F1
 refine zb (zb (za ?_))
 refine s_mv ?_
 refine s_mv ?_
 refine zC yU25 ?_
 refine s_lt ?_
 refine s_mv ?_
 refine zo _ 8 F1 ?_ ?_<;>intro C3 F2
 refine s_mv ?_
 refine s_lt ?_
 refine zA ?_
 refine zf (zd ?_)
 refine zm F2 ?_ ?_<;>intro C4 F3
 refine zi (zd (zb (zl (zb ?_))))
 refine zP yMix (by kernel_rfl) ?_
 refine s_mv ?_
 refine s_mv ?_
 obtain ⟨v5,V5,F4⟩:=zc F3
 refine zK Form.row V5 (Form.row_eq _) yE25 ?_
 refine zai yA27 yS27 ?_
 obtain ⟨v6,V6,F5⟩:=zc F4
 refine zv [] (m_spec_l3Is_ok fu _ _ V6) ?_
 refine zaG ?_
 refine s_mv ?_
 refine zo _ 20 F5 ?_ ?_<;>intro C7 F6
 iterate 6 refine r_no rfl ?_
 refine zA ?_
 refine s_mv ?_
 iterate 6 refine r_no rfl ?_
 refine zA ?_
 refine s_mv ?_
 iterate 8 refine r_no rfl ?_
 refine zA ?_
 refine zah (by kernel_rfl) ?_
 refine zd (zT rfl (zb (za ?_)))
 refine s_as ?_
 refine zf (zd (zh (zj (zg (zw (zj (zg (zn ?_))))))))
 cases F6
 exact zk [] [] Tryz.results128
 refine s_mv ?_
 refine s_mv ?_
 obtain ⟨v8,V8,F7⟩:=zc F6
 refine zK Form.row V8 (Form.row_eq _) yE25 ?_
 refine s_fa zcp ?_
 refine zu yA9 ?_
 refine zhv ?_
 refine zy ?_
 refine s_mv ?_
 refine zo _ 28 F7 ?_ ?_<;>intro C9 F8
 iterate 6 refine r_no rfl ?_
 refine zA ?_
 refine s_mv ?_
 iterate 8 refine r_no rfl ?_
 refine zA ?_
 refine zah (by kernel_rfl) ?_
 refine zd (zT rfl (zb (za ?_)))
 refine s_as ?_
 refine zf (zd (zh (zj (zg (zw (zj (zg (zn ?_))))))))
 cases F8
 exact zk [] [] Tryz.results128
 refine s_mv ?_
 refine s_mv ?_
 obtain ⟨v10,V10,F9⟩:=zc F8
 refine zK Form.row V10 (Form.row_eq _) yE25 ?_
 refine s_fa zcp ?_
 refine zu yA9 ?_
 refine zhv ?_
 refine zy ?_
 refine s_mv ?_
 refine zo _ 36 F9 ?_ ?_<;>intro C11 F10
 iterate 8 refine r_no rfl ?_
 refine zA ?_
 refine zah (by kernel_rfl) ?_
 refine zd (zT rfl (zb (za ?_)))
 refine s_as ?_
 refine zf (zd (zh (zj (zg (zw (zj (zg (zn ?_))))))))
 cases F10
 exact zk [] [] Tryz.results128
 refine s_mv ?_
 refine s_mv ?_
 obtain ⟨v12,V12,F11⟩:=zc F10
 refine s_sl01 Form.row (fun y=>Form.row_len y) V12 yU25 yE25 ?_
 refine s_mv ?_
 refine s_mv ?_
 obtain ⟨v13,V13,F12⟩:=zc F11
 refine zK Form.row V13 (Form.row_eq _) yE25 ?_
 refine zai yA27 yS27 ?_
 obtain ⟨v14,V14,F13⟩:=zc F12
 refine zv [] (zhp fu _ _ _ V14) ?_
 refine zy ?_
 refine zah (by kernel_rfl) ?_
 refine zd ?_
 refine zm F13 ?_ ?_<;>intro C15 F14
 refine zb (za ?_)
 refine s_as ?_
 refine zf (zd (zh (zj (zg (zw (zj (zg (zn ?_))))))))
 cases F14
 exact zk [] [] Tryz.results128
 refine zi (zW (zd (za ?_)))
 refine s_mv ?_
 refine zJ rfl ?_
 refine s_as ?_
 refine zf ?_
 exact s_rn (fu,(w64 (g1+1))) ⟨by first | omega | (dsimp only;omega),F14⟩
 refine zz (zq (zp (zr (zd (zb (za ?_))))))
 refine s_mv ?_
 refine zC yU25 ?_
 refine s_lt ?_
 refine s_as ?_
 refine zf (zd (zh (zn ?_)))
 cases F3
 exact zk [] [] Tryz.results128
 refine r_no rfl (r_no rfl ?_)
 refine zy ?_
 refine zf (zd (zaZ rfl (zz (zq (zp (zr (zd (zb (za ?_)))))))))
 refine s_mv ?_
 refine zC yU25 ?_
 refine s_lt ?_
 refine s_as ?_
 refine zf (zd (zh (zn ?_)))
 cases F2
 exact zk [] [] Tryz.results128
def m_spec_l4Dots_AC (fuel:Nat):Prop:=∀ (x1:Form) (r:Bool),za7 fuel x1=some r→AC Tryz.prog 161 [.ag [.t (.sc (.int .i64 x1.kind)),.t (.sc (.str x1.name)),.t (.sc (.int .i64 x1.n)),.t (.sl (x1.scopes.map rI)),.t (.sl (x1.kids.map Form.row))]] noOb (.t (.sc (.bool r))) noOb
theorem zaR (fuel:Nat):m_spec_l4Dots_AC fuel:=by
 intro x1 r F0
 unfold za7 at F0
 refine AC_i [.t (.sc (.bool r))] Tryz.func161 rfl Tryz.ntmps161 ?_
 intro C hC
 refine zb (za ?_)
 refine zaN ?_
 refine s_as ?_
 refine zf (zd (zb (za ?_)))
 refine s_fa zc1 ?_
 refine zu yA3 ?_
 refine s_eq ?_
 refine s_mv ?_
 refine zo _ 6 F0 ?_ ?_<;>intro C1 F1
 refine s_fa zcp ?_
 refine zu yA9 ?_
 refine zhv ?_
 refine zA ?_
 refine s_as ?_
 refine zf (zd (zh (zn ?_)))
 cases F1
 exact zk [] [] Tryz.results161
 iterate 3 refine r_no rfl ?_
 refine zy ?_
 refine s_as ?_
 refine zf (zd (zh (zn ?_)))
 cases F1
 exact zk [] [] Tryz.results161
def zfW (fuel:Nat):Prop:=∀ (x1:Form) (r:Bool),zen fuel x1=some r→AC Tryz.prog 129 [.ag [.t (.sc (.int .i64 x1.kind)),.t (.sc (.str x1.name)),.t (.sc (.int .i64 x1.n)),.t (.sl (x1.scopes.map rI)),.t (.sl (x1.kids.map Form.row))]] noOb (.t (.sc (.bool r))) noOb
theorem m_spec_l4Shape_st (fu:Nat) (ih_m_spec_l4Shape:∀ k,k≤fu→zfW k):zfW (fu+1):=by
 intro x1 r F0
 rw [zen] at F0
 refine AC_i [.t (.sc (.bool r))] Tryz.func129 rfl Tryz.ntmps129 ?_
 intro C hC
 refine zb (za ?_)
 refine zaN ?_
 refine s_as ?_
 refine zf (zd (zb (zb (za ?_))))
 refine zG yA27 yS27 ?_
 obtain ⟨v1,V1,F1⟩:=zc F0
 refine zv [] (zaR fu _ _ V1) ?_
 refine zf (zd ?_)
 refine zm F1 ?_ ?_<;>intro C2 F2
 refine zb (za ?_)
 refine s_as ?_
 refine zf (zd (zh (zg (zn ?_))))
 cases F2
 exact zk [] [] Tryz.results129
 refine zi (zd (zb (za ?_)))
 refine s_as ?_
 refine zf (zd (zb (zb (za ?_))))
 refine s_as ?_
 refine zf (zd (zl ?_))
 refine zaP (β:=Int × Int) [2,3,4,7,8,9,10,11,12,13,14,15,16,17,18,19,20,21,22,23,24,25,26,27,28,29,30,31,32,33,34,35,36,37,38,39] [] [] (fun a=>[(3,.t (.sc (.int .i64 a.2.1))),(4,.t (.sc (.int .i64 a.2.2)))]) (fun a=>[]) (fun a=>a.1≤fu∧zbX a.1 x1 a.2.1 a.2.2=some r∧0≤a.2.2) (fu,0,0) ⟨Nat.le_refl _,F2,by simp⟩ ?_
 clear F2
 rintro ⟨fu,g3,g4⟩ ⟨hl5,F3,hn_g4⟩
 dsimp only at hl5 F3 hn_g4 ⊢
 obtain _ | fu:=fu
 · rw [zbX] at F3;cases F3
 rw [zbX] at F3
 refine zb (zb (za ?_))
 refine s_mv ?_
 refine s_fa zF ?_
 refine zu yA25 ?_
 refine zC yU25 ?_
 refine s_lt ?_
 refine zf (zd ?_)
 refine zm F3 ?_ ?_<;>intro C6 F4
 refine zM 9 (fun B7=>?_)
 refine zi (zd (zb (zl (zb (zb (za ?_))))))
 refine s_fa zF ?_
 refine zu yA25 ?_
 refine s_mv ?_
 obtain ⟨v8,V8,F5⟩:=zc F4
 refine zK Form.row V8 (Form.row_eq _) yE25 ?_
 refine zai yA27 yS27 ?_
 obtain ⟨v9,V9,F6⟩:=zc F5
 refine zv [] (zaR fu _ _ V9) ?_
 refine zf (zd ?_)
 refine zm F6 ?_ ?_<;>intro C10 F7
 refine zb (za ?_)
 refine s_mv ?_
 refine zJ rfl ?_
 refine s_as ?_
 refine zf (zd (zb (zb (za ?_))))
 refine s_mv ?_
 refine s_eq ?_
 refine s_mv ?_
 refine zo _ 24 F7 ?_ ?_<;>intro C11 F8
 iterate 7 refine r_no rfl ?_
 refine zA ?_
 refine zf (zd (zT rfl (zb (za ?_))))
 refine s_as ?_
 refine zf (zd (zh (zg (zg (zj (zg (zw (zj (zg (zn ?_))))))))))
 cases F8
 exact zk [] [] Tryz.results129
 refine s_fa zF ?_
 refine zu yA25 ?_
 refine s_mv ?_
 refine zih rfl ?_
 obtain ⟨v12,V12,F9⟩:=zc F8
 refine zK Form.row V12 (Form.row_eq _) yE25 ?_
 refine zai yA27 yS27 ?_
 obtain ⟨v13,V13,F10⟩:=zc F9
 refine zv [] (zaR fu _ _ V13) ?_
 refine zy ?_
 refine zf (zd ?_)
 refine zm F10 ?_ ?_<;>intro C14 F11
 refine zb (za ?_)
 refine s_as ?_
 refine zf (zd (zh (zg (zg (zj (zg (zw (zj (zg (zn ?_))))))))))
 cases F11
 exact zk [] [] Tryz.results129
 refine zi (zd (zz (zq (zr (zd (za ?_))))))
 refine s_mv ?_
 refine zJ (zar C6 B7 hn_g4) ?_
 refine s_as ?_
 refine zf ?_
 exact s_rn (fu,(w64 (g3+1)),(g4+1)) ⟨by first | omega | (dsimp only;omega),F11,by first | omega | (dsimp only;omega)⟩
 refine zi (zd (zb (za ?_)))
 refine s_fa zF ?_
 refine zu yA25 ?_
 refine s_mv ?_
 obtain ⟨v15,V15,F8⟩:=zc F7
 refine zK Form.row V15 (Form.row_eq _) yE25 ?_
 refine zai yA27 yS27 ?_
 obtain ⟨v16,V16,F9⟩:=zc F8
 refine zv [] (ih_m_spec_l4Shape fu (by omega) _ _ V16) ?_
 refine zaG ?_
 refine zf (zd ?_)
 refine zm F9 ?_ ?_<;>intro C17 F10
 refine zb (za ?_)
 refine s_as ?_
 refine zf (zd (zh (zj (zg (zw (zj (zg (zn ?_))))))))
 cases F10
 exact zk [] [] Tryz.results129
 refine zi (zW (zd (za ?_)))
 refine s_mv ?_
 refine zJ (zar C6 B7 hn_g4) ?_
 refine s_as ?_
 refine zf ?_
 exact s_rn (fu,g3,(g4+1)) ⟨by first | omega | (dsimp only;omega),F10,by first | omega | (dsimp only;omega)⟩
 refine zz (zq (zp (zr (zd (zb (za ?_))))))
 refine s_mv ?_
 refine s_le ?_
 refine s_as ?_
 refine zf (zd (zh (zn ?_)))
 cases F4
 exact zk [] [] Tryz.results129
theorem m_spec_l4Shape_all (fuel:Nat):zfW fuel:=by
 induction fuel using Nat.strongRecOn with
 | _ N ih =>
   cases N with
   | zero=>exact (by intro x1 r h;rw [zen] at h;cases h)
   | succ fu=>exact m_spec_l4Shape_st fu (fun k hk=>(ih k (by omega)))
theorem m_spec_l4Shape_ok (fuel:Nat):zfW fuel:=(m_spec_l4Shape_all fuel)
def m_spec_l4Var_AC (fuel:Nat):Prop:=∀ (x1:Form) (x2:(List Form)) (r:Bool),zgM fuel x1 x2=some r→AC Tryz.prog 182 [.ag [.t (.sc (.int .i64 x1.kind)),.t (.sc (.str x1.name)),.t (.sc (.int .i64 x1.n)),.t (.sl (x1.scopes.map rI)),.t (.sl (x1.kids.map Form.row))],.t (.sl (x2.map Form.row))] noOb (.t (.sc (.bool r))) noOb
theorem m_spec_l4Var_ok (fuel:Nat):m_spec_l4Var_AC fuel:=by
 intro x1 x2 r F0
 unfold zgM at F0
 refine AC_i [.t (.sc (.bool r))] Tryz.func182 rfl Tryz.ntmps182 ?_
 intro C hC
 refine zb (za ?_)
 refine zaN ?_
 refine s_as ?_
 refine zf (zd (zb (za ?_)))
 refine s_fa zc1 ?_
 refine zu yA3 ?_
 refine s_eq ?_
 refine s_mv ?_
 refine zo _ 8 F0 ?_ ?_<;>intro C1 F1
 refine s_fa zcp ?_
 refine zu yA9 ?_
 refine s_neS ?_
 refine zA ?_
 refine s_mv ?_
 refine zo _ 13 F1 ?_ ?_<;>intro C2 F2
 refine s_fa zcp ?_
 refine zu yA9 ?_
 refine s_neS ?_
 refine zA ?_
 refine s_mv ?_
 refine zo _ 18 F2 ?_ ?_<;>intro C3 F3
 refine s_mv ?_
 refine zG yA27 yS27 ?_
 obtain ⟨v4,V4,F4⟩:=zc F3
 refine zv [] (zhp fuel _ _ _ V4) ?_
 refine zaG ?_
 refine zA ?_
 refine s_as ?_
 refine zf (zd (zh (zn ?_)))
 cases F4
 exact zk [] [] Tryz.results182
 iterate 4 refine r_no rfl ?_
 refine zy ?_
 refine s_as ?_
 refine zf (zd (zh (zn ?_)))
 cases F3
 exact zk [] [] Tryz.results182
 iterate 3 refine r_no rfl ?_
 refine zy ?_
 refine s_mv ?_
 iterate 4 refine r_no rfl ?_
 refine zy ?_
 refine s_as ?_
 refine zf (zd (zh (zn ?_)))
 cases F2
 exact zk [] [] Tryz.results182
 iterate 3 refine r_no rfl ?_
 refine zy ?_
 refine s_mv ?_
 iterate 3 refine r_no rfl ?_
 refine zy ?_
 refine s_mv ?_
 iterate 4 refine r_no rfl ?_
 refine zy ?_
 refine s_as ?_
 refine zf (zd (zh (zn ?_)))
 cases F1
 exact zk [] [] Tryz.results182
def zgu (fuel:Nat):Prop:=∀ (x1:(List Form)) (x2:Form) (x3:(List Form)) (r:(List Form)),zc2 fuel x1 x2 x3=some r→AC Tryz.prog 130 [.ar 9300,.ag [.t (.sc (.int .i64 x2.kind)),.t (.sc (.str x2.name)),.t (.sc (.int .i64 x2.n)),.t (.sl (x2.scopes.map rI)),.t (.sl (x2.kids.map Form.row))],.t (.sl (x3.map Form.row))] (objs [(9300,.arr (x1.map Form.row) 27 true)]) (.ar 9200) (objs [(9300,.dead),(9200,.arr (r.map Form.row) 27 true)])
theorem m_spec_l4Vars_st (fu:Nat) (ih_m_spec_l4Vars:∀ k,k≤fu→zgu k):zgu (fu+1):=by
 intro x1 x2 x3 r F0
 rw [zc2] at F0
 refine AC_i [.ar 9200] Tryz.func130 rfl Tryz.ntmps130 ?_
 intro C hC
 refine zb (za ?_)
 refine zaN ?_
 refine s_as ?_
 refine zf (zd (zb (zb (za ?_))))
 refine zG yA27 yS27 ?_
 refine s_mv ?_
 obtain ⟨v1,V1,F1⟩:=zc F0
 refine zv [] (m_spec_l4Var_ok fu _ _ _ V1) ?_
 refine zf (zd ?_)
 refine zm F1 ?_ ?_<;>intro C2 F2
 refine za ?_
 refine s_mv ?_
 refine zG yA27 yS27 ?_
 refine s_bs Form.row [x2] yP25 yR27 ?_
 obtain ⟨hk3,F3⟩:=zac F2
 refine zel Form.row (fun y=>Form.row_len y) hk3 yP25 ?_
 refine s_as ?_
 refine zf (zd (zb (zb (za ?_))))
 refine s_as ?_
 refine zf (zd (zl ?_))
 refine zeI 0 14 5020 (by conv=>lhs;whnf) (by conv=>lhs;whnf) rfl ?_
 refine zak [0,7,15,16,17,18,19,20,21,22,23,24,25,26,27,28,29] [5020] [12029] [5020] (fun a:Nat × (List Form) × Int=>a.1) (fun a:Nat × (List Form) × Int=>[(0,.ar 5020),(7,.t (.sc (.int .i64 a.2.2)))]) (fun a:Nat × (List Form) × Int=>[(5020,.arr (a.2.1.map Form.row) 27 true)]) (fun a:Nat × (List Form) × Int=>a.1≤fu∧zaQ a.1 x2 x3 a.2.1 a.2.2=some r∧0≤a.2.2) (fu,(x1++[x2]),0) ⟨Nat.le_refl _,F3,by simp⟩ (by rfl) (by rfl) (fun _=>rfl) (zI (by conv=>lhs;whnf) (by rfl) (zI (by conv=>lhs;whnf) (by rfl) zaX)) (zL (by conv=>lhs;whnf) (by rfl) zaK) (zbZ hC rfl) (by repeat (first | exact z6 rfl | refine zal rfl ?_ | refine zQ rfl ?_)) (by repeat (first | exact zay | exact zad rfl | refine zam rfl ?_ | refine zR rfl ?_)) ?_
 clear F3
 rintro ⟨fu,g4,g5⟩ ⟨hl6,F4,hn_g5⟩
 dsimp only at hl6 F4 hn_g5 ⊢
 obtain _ | fu:=fu
 · rw [zaQ] at F4;cases F4
 rw [zaQ] at F4
 refine zb (zb (za ?_))
 refine s_mv ?_
 refine s_fa zF ?_
 refine zu yA25 ?_
 refine zC yU25 ?_
 refine s_lt ?_
 refine zf (zd ?_)
 refine zm F4 ?_ ?_<;>intro C7 F5
 refine zM 17 (fun B8=>?_)
 refine zi (zd (zb (zl (za ?_))))
 refine s_mv ?_
 refine s_fa zF ?_
 refine zu yA25 ?_
 refine s_mv ?_
 obtain ⟨v9,V9,F6⟩:=zc F5
 refine zK Form.row V9 (Form.row_eq _) yE25 ?_
 refine zai yA27 yS27 ?_
 refine s_mv ?_
 obtain ⟨v10,V10,F7⟩:=zc F6
 refine z4 [(9300,5020),(9200,12029)] [] _ _ (ih_m_spec_l4Vars fu (by omega) _ _ _ _ V10) ?_
 refine s_as ?_
 refine zf (zW (zd (za ?_)))
 refine s_mv ?_
 refine zJ (zar C7 B8 hn_g5) ?_
 refine s_as ?_
 refine zf ?_
 exact s_rn (fu,v10,(g5+1)) ⟨by first | omega | (dsimp only;omega),F7,by first | omega | (dsimp only;omega)⟩ [(5020,12029)]
 refine zz (zq (zp (zr (zd (zb (za ?_))))))
 refine s_mv ?_
 refine s_as ?_
 refine zf (zd ?_)
 refine zeI 6 5020 9200 (by conv=>lhs;whnf) (by conv=>lhs;whnf) rfl ?_
 refine zh (zn ?_)
 cases F5
 exact zk _ [] Tryz.results130
 refine zi (zd (zb (zb (za ?_))))
 refine s_as ?_
 refine zf (zd (zl ?_))
 refine zeI 0 9300 5040 (by conv=>lhs;whnf) (by conv=>lhs;whnf) rfl ?_
 refine zak [0,7,15,16,17,18,19,20,21,22,23,24,25,26,27,28,29] [5040] [12029] [5040] (fun a:Nat × (List Form) × Int=>a.1) (fun a:Nat × (List Form) × Int=>[(0,.ar 5040),(7,.t (.sc (.int .i64 a.2.2)))]) (fun a:Nat × (List Form) × Int=>[(5040,.arr (a.2.1.map Form.row) 27 true)]) (fun a:Nat × (List Form) × Int=>a.1≤fu∧zaQ a.1 x2 x3 a.2.1 a.2.2=some r∧0≤a.2.2) (fu,x1,0) ⟨Nat.le_refl _,F2,by simp⟩ (by rfl) (by rfl) (fun _=>rfl) (zI (by conv=>lhs;whnf) (by rfl) (zI (by conv=>lhs;whnf) (by rfl) zaX)) (zL (by conv=>lhs;whnf) (by rfl) zaK) (zbZ hC rfl) (by repeat (first | exact z6 rfl | refine zal rfl ?_ | refine zQ rfl ?_)) (by repeat (first | exact zay | exact zad rfl | refine zam rfl ?_ | refine zR rfl ?_)) ?_
 clear F2
 rintro ⟨fu,g11,g12⟩ ⟨hl13,F3,hn_g12⟩
 dsimp only at hl13 F3 hn_g12 ⊢
 obtain _ | fu:=fu
 · rw [zaQ] at F3;cases F3
 rw [zaQ] at F3
 refine zb (zb (za ?_))
 refine s_mv ?_
 refine s_fa zF ?_
 refine zu yA25 ?_
 refine zC yU25 ?_
 refine s_lt ?_
 refine zf (zd ?_)
 refine zm F3 ?_ ?_<;>intro C14 F4
 refine zM 17 (fun B15=>?_)
 refine zi (zd (zb (zl (za ?_))))
 refine s_mv ?_
 refine s_fa zF ?_
 refine zu yA25 ?_
 refine s_mv ?_
 obtain ⟨v16,V16,F5⟩:=zc F4
 refine zK Form.row V16 (Form.row_eq _) yE25 ?_
 refine zai yA27 yS27 ?_
 refine s_mv ?_
 obtain ⟨v17,V17,F6⟩:=zc F5
 refine z4 [(9300,5040),(9200,12029)] [] _ _ (ih_m_spec_l4Vars fu (by omega) _ _ _ _ V17) ?_
 refine s_as ?_
 refine zf (zW (zd (za ?_)))
 refine s_mv ?_
 refine zJ (zar C14 B15 hn_g12) ?_
 refine s_as ?_
 refine zf ?_
 exact s_rn (fu,v17,(g12+1)) ⟨by first | omega | (dsimp only;omega),F6,by first | omega | (dsimp only;omega)⟩ [(5040,12029)]
 refine zz (zq (zp (zr (zd (zb (za ?_))))))
 refine s_mv ?_
 refine s_as ?_
 refine zf (zd ?_)
 refine zeI 6 5040 9200 (by conv=>lhs;whnf) (by conv=>lhs;whnf) rfl ?_
 refine zh (zn ?_)
 cases F4
 exact zk _ [] Tryz.results130
end Go.Abs
