/- A part of the proof: what the functions that the law calls answer, as pure values. -/
import Derived.Test.YtcllpfmjggkpnaaGreatK51caa9494268
import Derived.Test.YtcllpfmjggkpnaaGreatKa8136476e481
import Derived.Test.YtcllpfmjggkpnaaGreatK1df75f79e59f
set_option linter.unusedSimpArgs false
set_option linter.unusedVariables false
set_option maxRecDepth 100000
set_option maxHeartbeats 4000000
namespace Go.Abs
open Go.Proofs
def m_spec_l2Has_AC (fuel:Nat):Prop:=∀ (x1:(List Int)) (x2:Int) (r:Bool),zfS fuel x1 x2=some r→AC Tryz.prog 153 [.t (.sl (x1.map rI)),.t (.sc (.int .i64 x2))] noOb (.t (.sc (.bool r))) noOb
theorem m_spec_l2Has_ok (fuel:Nat):m_spec_l2Has_AC fuel:=by
 intro x1 x2 r F0
 unfold zfS at F0
 refine AC_i [.t (.sc (.bool r))] Tryz.func153 rfl Tryz.ntmps153 ?_
 intro C hC
 refine zb (za ?_)
 refine s_as ?_
 refine zf (zd (zb (zb (za ?_))))
 refine s_as ?_
 refine zf (zd (zk ?_))
 refine zbk (β:=Int) [4,5,6,7,8,9,10,11,12,13,14,15,16,17] [] [] (fun a=>[(5,.t (.sc (.int .i64 a.2)))]) (fun a=>[]) (fun a=>a.1≤fuel∧zdr a.1 x1 x2 a.2=some r∧0≤a.2) (fuel,0) ⟨Nat.le_refl _,F0,by simp⟩ ?_
 clear F0
 rintro ⟨fu,g1⟩ ⟨hl2,F1,hn_g1⟩
 dsimp only at hl2 F1 hn_g1 ⊢
 obtain _ | fu:=fu
 · rw [zdr] at F1;cases F1
 rw [zdr] at F1
 refine zb (zb (za ?_))
 refine s_mv ?_
 refine s_mv ?_
 refine zF yU24 ?_
 refine s_lt ?_
 refine zf (zd ?_)
 refine zm F1 ?_ ?_<;>intro C3 F2
 refine zW 0 (fun B4=>?_)
 refine zi (zd (zb (zk (zb (za ?_)))))
 refine s_mv ?_
 refine s_mv ?_
 obtain ⟨v5,V5,F3⟩:=zc F2
 refine zN rI V5 rfl yE24 ?_
 refine zu yA3 ?_
 refine s_mv ?_
 refine s_eq ?_
 refine zf (zd ?_)
 refine zm F3 ?_ ?_<;>intro C6 F4
 refine zb (za ?_)
 refine s_as ?_
 refine zf (zd (zh (zj (zg (zy (zj (zg (zn ?_))))))))
 cases F4
 exact zl [] [] Tryz.results153
 refine zi (zaa (zd (za ?_)))
 refine s_mv ?_
 refine zO (zaJ C3 B4 hn_g1) ?_
 refine s_as ?_
 refine zf ?_
 exact s_rn (fu,(g1+1)) ⟨by first | omega | (dsimp only;omega),F4,by first | omega | (dsimp only;omega)⟩
 refine zA (zq (zp (zr (zd (zb (za ?_))))))
 refine s_as ?_
 refine zf (zd (zh (zn ?_)))
 cases F2
 exact zl [] [] Tryz.results153
def m_spec_ScopesWithin_AC (fuel:Nat):Prop:=∀ (x1:(List Int)) (x2:(List Int)) (r:Bool),zcD fuel x1 x2=some r→AC Tryz.prog 141 [.t (.sl (x1.map rI)),.t (.sl (x2.map rI))] noOb (.t (.sc (.bool r))) noOb
theorem zgg (fuel:Nat):m_spec_ScopesWithin_AC fuel:=by
 intro x1 x2 r F0
 unfold zcD at F0
 refine AC_i [.t (.sc (.bool r))] Tryz.func141 rfl Tryz.ntmps141 ?_
 intro C hC
 refine zb (za ?_)
 refine s_as ?_
 refine zf (zd (zb (zb (za ?_))))
 refine s_as ?_
 refine zf (zd (zk ?_))
 refine zbk (β:=Int) [4,5,6,7,8,9,10,11,12,13,14,15,16,17,18] [] [] (fun a=>[(5,.t (.sc (.int .i64 a.2)))]) (fun a=>[]) (fun a=>a.1≤fuel∧zbl a.1 x1 x2 a.2=some r∧0≤a.2) (fuel,0) ⟨Nat.le_refl _,F0,by simp⟩ ?_
 clear F0
 rintro ⟨fu,g1⟩ ⟨hl2,F1,hn_g1⟩
 dsimp only at hl2 F1 hn_g1 ⊢
 obtain _ | fu:=fu
 · rw [zbl] at F1;cases F1
 rw [zbl] at F1
 refine zb (zb (za ?_))
 refine s_mv ?_
 refine s_mv ?_
 refine zF yU24 ?_
 refine s_lt ?_
 refine zf (zd ?_)
 refine zm F1 ?_ ?_<;>intro C3 F2
 refine zW 0 (fun B4=>?_)
 refine zi (zd (zb (zk (zb (za ?_)))))
 iterate 3 refine s_mv ?_
 obtain ⟨v5,V5,F3⟩:=zc F2
 refine zN rI V5 rfl yE24 ?_
 refine zu yA3 ?_
 obtain ⟨v6,V6,F4⟩:=zc F3
 refine zx [] (m_spec_l2Has_ok fu _ _ _ V6) ?_
 refine zbq ?_
 refine zf (zd ?_)
 refine zm F4 ?_ ?_<;>intro C7 F5
 refine zb (za ?_)
 refine s_as ?_
 refine zf (zd (zh (zj (zg (zy (zj (zg (zn ?_))))))))
 cases F5
 exact zl [] [] Tryz.results141
 refine zi (zaa (zd (za ?_)))
 refine s_mv ?_
 refine zO (zaJ C3 B4 hn_g1) ?_
 refine s_as ?_
 refine zf ?_
 exact s_rn (fu,(g1+1)) ⟨by first | omega | (dsimp only;omega),F5,by first | omega | (dsimp only;omega)⟩
 refine zA (zq (zp (zr (zd (zb (za ?_))))))
 refine s_as ?_
 refine zf (zd (zh (zn ?_)))
 cases F2
 exact zl [] [] Tryz.results141
def m_spec_l3Fitting_AC (fuel:Nat):Prop:=∀ (x1:(List Bind)) (x2:Form) (r:(List Int)),zee fuel x1 x2=some r→AC Tryz.prog 140 [.t (.sl (x1.map Bind.row)),.ag [.t (.sc (.int .i64 x2.kind)),.t (.sc (.str x2.name)),.t (.sc (.int .i64 x2.n)),.t (.sl (x2.scopes.map rI)),.t (.sl (x2.kids.map Form.row))]] noOb (.t (.sl (r.map rI))) noOb
theorem m_spec_l3Fitting_ok (fuel:Nat):m_spec_l3Fitting_AC fuel:=by
 intro x1 x2 r F0
 unfold zee at F0
 refine AC_i [.t (.sl (r.map rI))] Tryz.func140 rfl Tryz.ntmps140 ?_
 intro C hC
 refine zb (za ?_)
 refine za9 ?_
 refine s_as ?_
 refine zf (zd (zb (za ?_)))
 refine s_bs rI ([]:List Int) yP24 yR3 ?_
 refine s_as ?_
 refine zf (zd (zb (zb (za ?_))))
 refine s_as ?_
 refine zf (zd (zk ?_))
 refine zdl 5 7 5020 (by conv=>lhs;whnf) (by conv=>lhs;whnf) rfl ?_
 refine zap [5,6,8,9,10,11,12,13,14,15,16,17,18,19,20,21,22,23,24,25,26,27,28,29,30,31,32,33,34,35] [5020] [34,35] [5020] (fun a:Nat × (List Int) × Int=>a.1) (fun a:Nat × (List Int) × Int=>[(5,.ar 5020),(6,.t (.sc (.int .i64 a.2.2)))]) (fun a:Nat × (List Int) × Int=>[(5020,.arr (a.2.1.map rI) 3 true)]) (fun a:Nat × (List Int) × Int=>a.1≤fuel∧za3 a.1 x1 x2 a.2.1 a.2.2=some r∧0≤a.2.2) (fuel,([]:List Int),0) ⟨Nat.le_refl _,F0,by simp⟩ (by rfl) (by rfl) (fun _=>rfl) (zG (by conv=>lhs;whnf) (by rfl) (zG (by conv=>lhs;whnf) (by rfl) za7)) (zT (by conv=>lhs;whnf) (by rfl) zaW) (zb7 hC rfl) (by repeat (first | exact zai rfl | refine zat rfl ?_ | refine zX rfl ?_)) (by repeat (first | exact zaL | exact zam rfl | refine zau rfl ?_ | refine zY rfl ?_)) ?_
 clear F0
 rintro ⟨fu,g1,g2⟩ ⟨hl3,F1,hn_g2⟩
 dsimp only at hl3 F1 hn_g2 ⊢
 obtain _ | fu:=fu
 · rw [za3] at F1;cases F1
 rw [za3] at F1
 refine zb (zb (za ?_))
 refine s_mv ?_
 refine s_mv ?_
 refine zF yU23 ?_
 refine s_lt ?_
 refine zf (zd ?_)
 refine zm F1 ?_ ?_<;>intro C4 F2
 refine zW 0 (fun B5=>?_)
 refine zi (zd (zb (zk ?_)))
 refine zbj (α:=Nat × Bool) [14,15,16,17,18,19,20,21,22,23,24,25,26,27,28,29,30,31] [] [] (fun a=>[(31,.t (.sc (.bool a.2)))]) (fun a=>[]) (fun a=>a.1≤fu∧zbZ a.1 x1 x2 g1 g2 a.2=some r) ?_ ?_
 refine z7 yMix (by kernel_rfl) ?_
 refine s_mv ?_
 refine s_mv ?_
 obtain ⟨v6,V6,F3⟩:=zc F2
 refine zN Bind.row V6 (Bind.row_eq _) yE23 ?_
 refine s_fa yF50_0 ?_
 refine zu yA9 ?_
 refine s_fa zdp ?_
 refine zu yA9 ?_
 refine zht ?_
 refine s_mv ?_
 refine zo _ 22 F3 ?_ ?_<;>intro C7 F4
 refine s_mv ?_
 refine s_mv ?_
 obtain ⟨v8,V8,F5⟩:=zc F4
 refine zN Bind.row V8 (Bind.row_eq _) yE23 ?_
 refine s_fa yF50_1 ?_
 refine zu yA24 ?_
 refine s_fa zeR ?_
 refine zu yA24 ?_
 obtain ⟨v9,V9,F6⟩:=zc F5
 refine zx [] (zgg fu _ _ _ V9) ?_
 refine zz ?_
 refine zar (by kernel_rfl) ?_
 exact s_jn (fu,v9) ⟨by first | omega | (dsimp only;omega),F6⟩
 iterate 8 refine r_no rfl ?_
 refine zB ?_
 refine zar (by kernel_rfl) ?_
 exact s_jn (fu,false) ⟨by first | omega | (dsimp only;omega),F4⟩
 clear F2
 rintro ⟨fu,g10⟩ ⟨hl11,F3⟩
 dsimp only at hl11 F3 ⊢
 obtain _ | fu:=fu
 · rw [zbZ] at F3;cases F3
 rw [zbZ] at F3
 refine zm F3 ?_ ?_<;>intro C12 F4
 refine za ?_
 refine s_mv ?_
 refine s_mv ?_
 refine s_bs rI [g2] yP24 yR3 ?_
 obtain ⟨hk13,F5⟩:=zab F4
 refine zd4 rI (fun _=>rfl) hk13 yP24 ?_
 refine s_as ?_
 refine zf (zaa (zd (za ?_)))
 refine s_mv ?_
 refine zO (zaJ C4 B5 hn_g2) ?_
 refine s_as ?_
 refine zf ?_
 exact s_rn (fu,(g1++[g2]),(g2+1)) ⟨by first | omega | (dsimp only;omega),F5,by first | omega | (dsimp only;omega)⟩ [(5020,35)]
 refine zi (zaa (zd (za ?_)))
 refine s_mv ?_
 refine zO (zaJ C4 B5 hn_g2) ?_
 refine s_as ?_
 refine zf ?_
 exact s_rn (fu,g1,(g2+1)) ⟨by first | omega | (dsimp only;omega),F4,by first | omega | (dsimp only;omega)⟩
 refine zA (zq (zp (zr (zd (zb (za ?_))))))
 refine s_mv ?_
 refine s_as ?_
 refine zf (zd (zh (zn ?_)))
 cases F2
 exact zl [] [5020] Tryz.results140
def m_spec_l3Find_AC (fuel:Nat):Prop:=∀ (x1:(List Bind)) (x2:Form) (r:(Int × Int)),zfa fuel x1 x2=some r→AC Tryz.prog 118 [.t (.sl (x1.map Bind.row)),.ag [.t (.sc (.int .i64 x2.kind)),.t (.sc (.str x2.name)),.t (.sc (.int .i64 x2.n)),.t (.sl (x2.scopes.map rI)),.t (.sl (x2.kids.map Form.row))]] noOb (.tp [.t (.sc (.int .i64 r.1)),.t (.sc (.int .i64 r.2))]) noOb
theorem m_spec_l3Find_ok (fuel:Nat):m_spec_l3Find_AC fuel:=by
 intro x1 x2 r F0
 unfold zfa at F0
 refine AC_i [.t (.sc (.int .i64 r.1)),.t (.sc (.int .i64 r.2))] Tryz.func118 rfl Tryz.ntmps118 ?_
 intro C hC
 refine zb (za ?_)
 refine za9 ?_
 refine s_as ?_
 refine s_as ?_
 refine zf (zd (zb (za ?_)))
 refine s_mv ?_
 refine zJ yA27 yS27 ?_
 obtain ⟨v1,V1,F1⟩:=zc F0
 refine zx [] (m_spec_l3Fitting_ok fuel _ _ _ V1) ?_
 refine s_as ?_
 refine zf (zd (zb (zb (za ?_))))
 refine s_as ?_
 refine zf (zd (zk ?_))
 refine zbk (β:=Int) [4,5,7,8,9,13,14,15,16,17,18,19,20,21,22,23,24,25,26,27,28,29,30,31,32,33,34,35,36,37,38,39,40,41,42,43,44,45,46,47,48,49] [] [] (fun a=>[(7,.t (.sc (.int .i64 a.2)))]) (fun a=>[]) (fun a=>a.1≤fuel∧zct a.1 x1 v1 a.2=some r∧0≤a.2) (fuel,0) ⟨Nat.le_refl _,F1,by simp⟩ ?_
 clear F1
 rintro ⟨fu,g2⟩ ⟨hl3,F2,hn_g2⟩
 dsimp only at hl3 F2 hn_g2 ⊢
 obtain _ | fu:=fu
 · rw [zct] at F2;cases F2
 rw [zct] at F2
 refine zb (zb (za ?_))
 refine s_mv ?_
 refine s_mv ?_
 refine zF yU24 ?_
 refine s_lt ?_
 refine zf (zd ?_)
 refine zm F2 ?_ ?_<;>intro C4 F3
 refine zW 6 (fun B5=>?_)
 refine zi (zd (zb (zk (zb (za ?_)))))
 refine s_as ?_
 refine zf (zd ?_)
 refine zbj (α:=Nat × Bool) [8,9,19,20,21,22,23,24,25,26,27,28,29,30,31,32,33,34,35,36,37,38,39,40,41,42,43,44] [] [] (fun a=>[(8,.t (.sc (.bool a.2)))]) (fun a=>[]) (fun a=>a.1≤fu∧zdB a.1 x1 v1 g2 a.2=some r) ?_ ?_
 refine zb (za ?_)
 refine s_as ?_
 refine zf (zd (zk ?_))
 refine zbk (β:=Bool × Int) [8,9,19,20,21,22,23,24,25,26,27,28,29,30,31,32,33,34,35,36,37,38,39,40,41,42,43,44] [] [] (fun a=>[(8,.t (.sc (.bool a.2.1))),(9,.t (.sc (.int .i64 a.2.2)))]) (fun a=>[]) (fun a=>a.1≤fu∧zcs a.1 x1 v1 g2 a.2.1 a.2.2=some r∧0≤a.2.2) (fu,true,0) ⟨Nat.le_refl _,F3,by simp⟩ ?_
 clear F3
 rintro ⟨fu,g6,g7⟩ ⟨hl8,F4,hn_g7⟩
 dsimp only at hl8 F4 hn_g7 ⊢
 obtain _ | fu:=fu
 · rw [zcs] at F4;cases F4
 rw [zcs] at F4
 refine zb (zb (za ?_))
 refine s_mv ?_
 refine s_mv ?_
 refine zF yU24 ?_
 refine s_lt ?_
 refine zf (zd ?_)
 refine zm F4 ?_ ?_<;>intro C9 F5
 refine zi (zd ?_)
 refine zbj (α:=Nat × Bool) [8,25,26,27,28,29,30,31,32,33,34,35,36,37,38,39,40,41,42,43,44] [] [] (fun a=>[(8,.t (.sc (.bool a.2)))]) (fun a=>[]) (fun a=>a.1≤fu∧zc2 a.1 x1 v1 g2 g7 a.2=some r) ?_ ?_
 refine zk ?_
 refine z7 yMix (by kernel_rfl) ?_
 refine s_mv ?_
 refine s_mv ?_
 refine zo _ 26 F5 ?_ ?_<;>intro C10 F6
 iterate 3 refine s_mv ?_
 obtain ⟨v11,V11,F7⟩:=zc F6
 refine zN rI V11 rfl yE24 ?_
 refine zu yA3 ?_
 obtain ⟨v12,V12,F8⟩:=zc F7
 refine zN Bind.row V12 (Bind.row_eq _) yE23 ?_
 refine s_fa yF50_1 ?_
 refine zu yA24 ?_
 iterate 3 refine s_mv ?_
 obtain ⟨v13,V13,F9⟩:=zc F8
 refine zN rI V13 rfl yE24 ?_
 refine zu yA3 ?_
 obtain ⟨v14,V14,F10⟩:=zc F9
 refine zN Bind.row V14 (Bind.row_eq _) yE23 ?_
 refine s_fa yF50_1 ?_
 refine zu yA24 ?_
 obtain ⟨v15,V15,F11⟩:=zc F10
 refine zx [] (zgg fu _ _ _ V15) ?_
 refine zz ?_
 refine s_as ?_
 refine zar (by kernel_rfl) ?_
 refine zaa ?_
 exact s_jn (fu,v15) ⟨by first | omega | (dsimp only;omega),F11⟩
 iterate 17 refine r_no rfl ?_
 refine zB ?_
 refine s_as ?_
 refine zar (by kernel_rfl) ?_
 refine zaa ?_
 exact s_jn (fu,false) ⟨by first | omega | (dsimp only;omega),F6⟩
 clear F5
 rintro ⟨fu,g16⟩ ⟨hl17,F6⟩
 dsimp only at hl17 F6 ⊢
 obtain _ | fu:=fu
 · rw [zc2] at F6;cases F6
 rw [zc2] at F6
 refine za ?_
 refine s_mv ?_
 refine zO (zaJ C9 B5 hn_g7) ?_
 refine s_as ?_
 refine zf ?_
 exact s_rn (fu,g16,(g7+1)) ⟨by first | omega | (dsimp only;omega),F6,by first | omega | (dsimp only;omega)⟩
 refine zA (zq (zp (zr ?_)))
 exact s_jn (fu,g6) ⟨by first | omega | (dsimp only;omega),F5⟩
 clear F3
 rintro ⟨fu,g18⟩ ⟨hl19,F4⟩
 dsimp only at hl19 F4 ⊢
 obtain _ | fu:=fu
 · rw [zdB] at F4;cases F4
 rw [zdB] at F4
 refine zb (za ?_)
 refine s_mv ?_
 refine zf (zd ?_)
 refine zm F4 ?_ ?_<;>intro C20 F5
 refine zb (za ?_)
 refine s_mv ?_
 refine s_mv ?_
 obtain ⟨v21,V21,F6⟩:=zc F5
 refine zN rI V21 rfl yE24 ?_
 refine zu yA3 ?_
 refine s_as ?_
 refine s_as ?_
 refine zf (zd (zh (zj (zg (zy (zj (zg (zn ?_))))))))
 cases F6
 exact zl [] [] Tryz.results118
 refine zi (zaa (zd (za ?_)))
 refine s_mv ?_
 refine zO (zaJ C4 B5 hn_g2) ?_
 refine s_as ?_
 refine zf ?_
 exact s_rn (fu,(g2+1)) ⟨by first | omega | (dsimp only;omega),F5,by first | omega | (dsimp only;omega)⟩
 refine zA (zq (zp (zr (zd (zb (zb (za ?_)))))))
 refine s_mv ?_
 refine zF yU24 ?_
 refine s_gt ?_
 refine zf (zd ?_)
 refine zm F3 ?_ ?_<;>intro C22 F4
 refine zW 6 (fun B23=>?_)
 refine zb (za ?_)
 refine s_as ?_
 refine s_as ?_
 refine zf (zd (zh (zg (zn ?_))))
 cases F4
 exact zl [] [] Tryz.results118
 refine zi (zd (zb (za ?_)))
 refine s_as ?_
 refine s_as ?_
 refine zf (zd (zh (zn ?_)))
 cases F4
 exact zl [] [] Tryz.results118
def m_spec_l3Same_AC (fuel:Nat):Prop:=∀ (x1:(List Bind)) (x2:Form) (x3:Form) (r:Bool),zf2 fuel x1 x2 x3=some r→AC Tryz.prog 73 [.t (.sl (x1.map Bind.row)),.ag [.t (.sc (.int .i64 x2.kind)),.t (.sc (.str x2.name)),.t (.sc (.int .i64 x2.n)),.t (.sl (x2.scopes.map rI)),.t (.sl (x2.kids.map Form.row))],.ag [.t (.sc (.int .i64 x3.kind)),.t (.sc (.str x3.name)),.t (.sc (.int .i64 x3.n)),.t (.sl (x3.scopes.map rI)),.t (.sl (x3.kids.map Form.row))]] noOb (.t (.sc (.bool r))) noOb
theorem m_spec_l3Same_ok (fuel:Nat):m_spec_l3Same_AC fuel:=by
 intro x1 x2 x3 r F0
 unfold zf2 at F0
 refine AC_i [.t (.sc (.bool r))] Tryz.func73 rfl Tryz.ntmps73 ?_
 intro C hC
 refine zb (za ?_)
 refine za9 ?_
 refine za9 ?_
 refine s_as ?_
 refine zf (zd (zb (za ?_)))
 refine s_mv ?_
 refine zJ yA27 yS27 ?_
 obtain ⟨v1,V1,F1⟩:=zc F0
 refine zx [] (m_spec_l3Find_ok fuel _ _ _ V1) ?_
 refine s_mv ?_
 refine zbJ ?_
 refine zbJ ?_
 refine s_as ?_
 refine s_as ?_
 refine zf (zd (zb (za ?_)))
 refine s_mv ?_
 refine zJ yA27 yS27 ?_
 obtain ⟨v2,V2,F2⟩:=zc F1
 refine zx [] (m_spec_l3Find_ok fuel _ _ _ V2) ?_
 refine s_mv ?_
 refine zbJ ?_
 refine zbJ ?_
 refine s_as ?_
 refine s_as ?_
 refine zf (zd (zb ?_))
 refine zbj (α:=Nat × Bool) [23,24,25,26,27,28,29] [] [] (fun a=>[(29,.t (.sc (.bool a.2)))]) (fun a=>[]) (fun a=>a.1≤fuel∧zc1 a.1 x1 x2 x3 v1 v2 a.2=some r) ?_ ?_
 refine za ?_
 refine s_mv ?_
 refine s_mv ?_
 refine s_ne ?_
 refine s_mv ?_
 refine zo _ 26 F2 ?_ ?_<;>intro C3 F3
 refine r_no rfl (r_no rfl ?_)
 refine zz ?_
 refine zf ?_
 exact s_jn (fuel,true) ⟨by first | omega | (dsimp only;omega),F3⟩
 refine s_mv ?_
 refine s_eq ?_
 refine zB ?_
 refine zf ?_
 exact s_jn (fuel,(decide (v1.2=2))) ⟨by first | omega | (dsimp only;omega),F3⟩
 clear F2
 rintro ⟨fu,g4⟩ ⟨hl5,F3⟩
 dsimp only at hl5 F3 ⊢
 obtain _ | fu:=fu
 · rw [zc1] at F3;cases F3
 rw [zc1] at F3
 refine zm F3 ?_ ?_<;>intro C6 F4
 refine zb (za ?_)
 refine s_as ?_
 refine zf (zd (zh (zg (zn ?_))))
 cases F4
 exact zl [] [] Tryz.results73
 refine zi (zd (zb (zb (za ?_))))
 refine s_mv ?_
 refine s_eq ?_
 refine zf (zd ?_)
 refine zm F4 ?_ ?_<;>intro C7 F5
 refine zb (za ?_)
 refine s_fa zdp ?_
 refine zu yA9 ?_
 refine s_fa zdp ?_
 refine zu yA9 ?_
 refine zht ?_
 refine s_as ?_
 refine zf (zd (zh (zg (zn ?_))))
 cases F5
 exact zl [] [] Tryz.results73
 refine zi (zd (zb ?_))
 refine z7 yMix (by kernel_rfl) ?_
 refine s_mv ?_
 refine s_mv ?_
 obtain ⟨v8,V8,F6⟩:=zc F5
 refine zN Bind.row V8 (Bind.row_eq _) yE23 ?_
 refine s_fa yF50_2 ?_
 refine zu yA3 ?_
 refine s_mv ?_
 refine s_mv ?_
 obtain ⟨v9,V9,F7⟩:=zc F6
 refine zN Bind.row V9 (Bind.row_eq _) yE23 ?_
 refine s_fa yF50_2 ?_
 refine zu yA3 ?_
 refine s_eq ?_
 refine s_as ?_
 refine zar (by kernel_rfl) ?_
 refine zd (zh (zn ?_))
 cases F7
 exact zl [] [] Tryz.results73
def m_spec_l4Row_AC (fuel:Nat):Prop:=∀ (x1:Form) (x2:(List Form)) (x3:(List (List Hit))) (r:(List Hit)),zgy fuel x1 x2 x3=some r→AC Tryz.prog 119 [.ag [.t (.sc (.int .i64 x1.kind)),.t (.sc (.str x1.name)),.t (.sc (.int .i64 x1.n)),.t (.sl (x1.scopes.map rI)),.t (.sl (x1.kids.map Form.row))],.t (.sl (x2.map Form.row)),.t (.sl (x3.map (rL Hit.row)))] noOb (.t (.sl (r.map Hit.row))) noOb
theorem m_spec_l4Row_ok (fuel:Nat):m_spec_l4Row_AC fuel:=by
 intro x1 x2 x3 r F0
 unfold zgy at F0
 refine AC_i [.t (.sl (r.map Hit.row))] Tryz.func119 rfl Tryz.ntmps119 ?_
 intro C hC
 refine zb (za ?_)
 refine za9 ?_
 refine s_as ?_
 refine zf (zd (zb (za ?_)))
 refine s_bs Hit.row ([]:List Hit) yP30 yR38 ?_
 refine s_as ?_
 refine zf (zd (zb (za ?_)))
 refine s_bs Form.row ([]:List Form) yP25 yR27 ?_
 refine zJ yA27 yS27 ?_
 refine s_mv ?_
 obtain ⟨v1,V1,F1⟩:=zc F0
 refine zU [(9300,14),(9200,12017)] [] _ _ (zgD fuel _ _ _ _ V1) ?_
 refine s_as ?_
 refine zf (zd (zb (za ?_)))
 refine s_bs rI ([]:List Int) yP24 yR3 ?_
 refine zJ yA27 yS27 ?_
 refine s_mv ?_
 obtain ⟨v2,V2,F2⟩:=zc F1
 refine zU [(9300,18),(9200,12021)] [] _ _ (zf0 fuel _ _ _ _ _ V2) ?_
 refine s_as ?_
 refine zf (zd (zb (zb (za ?_))))
 refine s_as ?_
 refine zf (zd (zk ?_))
 refine zdl 7 13 5020 (by conv=>lhs;whnf) (by conv=>lhs;whnf) rfl ?_
 refine zap [7,10,11,12,22,23,24,25,26,27,28,29,30,31,32,33,34,35,36,37,38,39,40,41,42,43,44,45,46,47,48,49,50,51,52,53,54,55,56,57,58,59] [5020] [11,58,59,5040] [5020] (fun a:Nat × (List Hit) × Int=>a.1) (fun a:Nat × (List Hit) × Int=>[(7,.ar 5020),(10,.t (.sc (.int .i64 a.2.2)))]) (fun a:Nat × (List Hit) × Int=>[(5020,.arr (a.2.1.map Hit.row) 38 true)]) (fun a:Nat × (List Hit) × Int=>a.1≤fuel∧zcO a.1 x3 v1 v2 a.2.1 a.2.2=some r) (fuel,([]:List Hit),0) ⟨Nat.le_refl _,F2⟩ (by rfl) (by rfl) (fun _=>rfl) (zG (by conv=>lhs;whnf) (by rfl) (zG (by conv=>lhs;whnf) (by rfl) za7)) (zT (by conv=>lhs;whnf) (by rfl) zaW) (zb7 hC rfl) (by repeat (first | exact zai rfl | refine zat rfl ?_ | refine zX rfl ?_)) (by repeat (first | exact zaL | exact zam rfl | refine zau rfl ?_ | refine zY rfl ?_)) ?_
 clear F2
 rintro ⟨fu,g3,g4⟩ ⟨hl5,F3⟩
 dsimp only at hl5 F3 ⊢
 obtain _ | fu:=fu
 · rw [zcO] at F3;cases F3
 rw [zcO] at F3
 refine zb (zb (za ?_))
 refine s_mv ?_
 refine s_mv ?_
 refine zhs yU25 ?_
 refine s_lt ?_
 refine zf (zd ?_)
 refine zm F3 ?_ ?_<;>intro C6 F4
 refine zhU 8 12017 (fun B7=>?_)
 refine zi (zd (zb (zk (zb ?_))))
 refine z7 yMix (by kernel_rfl) ?_
 refine zhr ?_
 refine s_mv ?_
 obtain ⟨v8,V8,F5⟩:=zc F4
 refine s_ixA Form.row V8 yE25 ?_
 refine s_lAN Form.row V8 (Form.row_eq _) yA27 yS27 ?_
 refine zhr ?_
 refine s_mv ?_
 obtain ⟨v9,V9,F6⟩:=zc F5
 refine s_ixA rI V9 yE24 ?_
 refine s_lA1 rI V9 rfl yA3 ?_
 refine zO rfl ?_
 refine zeJ yZ38 yL38 ?_
 refine zR yZ38 ?_
 refine zac yS38 ?_
 refine zar (by kernel_rfl) ?_
 refine zd (zb (zb (za ?_)))
 refine s_as ?_
 refine zf (zd (zk ?_))
 refine zgZ 11 5040 38 [.t (.sc (.int .i64 v8.kind)),.t (.sc (.str v8.name)),.t (.sc (.int .i64 v8.n)),.t (.sl (v8.scopes.map rI)),.t (.sl (v8.kids.map Form.row)),.t (.sc (.int .i64 (w64 (v9+1)))),.t (.sc (.int .i64 0)),.t (.sc (.str (⟨#[]⟩:ByteArray))),.t (.sc (.int .i64 0)),.nl,.nl,.ar 5040] yI38.choose_spec ?_
 refine zap [12,38,39,40,41,42,43,44,45,46,47,48,49,50,51,52,53,54,55] [11,5040] [53,54] [5040] (fun a:Nat × Int × (List Hit)=>a.1) (fun a:Nat × Int × (List Hit)=>[(12,.t (.sc (.int .i64 a.2.1)))]) (fun a:Nat × Int × (List Hit)=>[(11,.box [.t (.sc (.int .i64 v8.kind)),.t (.sc (.str v8.name)),.t (.sc (.int .i64 v8.n)),.t (.sl (v8.scopes.map rI)),.t (.sl (v8.kids.map Form.row)),.t (.sc (.int .i64 (w64 (v9+1)))),.t (.sc (.int .i64 0)),.t (.sc (.str (⟨#[]⟩:ByteArray))),.t (.sc (.int .i64 0)),.nl,.nl,.ar 5040]),(5040,.arr (a.2.2.map Hit.row) 38 true)]) (fun a:Nat × Int × (List Hit)=>a.1≤fu∧zcN a.1 x3 v1 v2 g3 g4 v8 v9 a.2.1 a.2.2=some r∧0≤a.2.1) (fu,0,([]:List Hit)) ⟨Nat.le_refl _,F6,by simp⟩ (by rfl) (by rfl) (fun _=>rfl) (zG (by conv=>lhs;whnf) (by rfl) za7) (zT (by conv=>lhs;whnf) (by rfl) (zT (by conv=>lhs;whnf) (by rfl) zaW)) (zb7 hC rfl) (by repeat (first | exact zai rfl | refine zat rfl ?_ | refine zX rfl ?_)) (by repeat (first | exact zaL | exact zam rfl | refine zau rfl ?_ | refine zY rfl ?_)) ?_
 clear F6
 rintro ⟨fu,g10,g11⟩ ⟨hl12,F7,hn_g10⟩
 dsimp only at hl12 F7 hn_g10 ⊢
 obtain _ | fu:=fu
 · rw [zcN] at F7;cases F7
 rw [zcN] at F7
 refine zb (zb (za ?_))
 refine s_mv ?_
 refine s_mv ?_
 refine zF yU130 ?_
 refine s_lt ?_
 refine zf (zd ?_)
 refine zm F7 ?_ ?_<;>intro C13 F8
 refine zW 2 (fun B14=>?_)
 refine zi (zd (zb (zk ?_)))
 refine z7 yMix (by kernel_rfl) ?_
 refine s_fa zfP ?_
 refine zu yA30 ?_
 refine s_mv ?_
 refine s_mv ?_
 obtain ⟨v15,V15,F9⟩:=zc F8
 refine zN (rL Hit.row) V15 rfl yE130 ?_
 refine zu yA30 ?_
 refine s_mv ?_
 obtain ⟨v16,V16,F10⟩:=zc F9
 refine zN Hit.row V16 (Hit.row_eq _) yE30 ?_
 refine zas yA38 yS38 ?_
 refine s_bs Hit.row [v16] yP30 yR38 ?_
 obtain ⟨hk17,F11⟩:=zab F10
 refine zd4 Hit.row (fun y=>Hit.row_len y) hk17 yP30 ?_
 refine s_fa zfP ?_
 refine zgO yS30 ?_
 refine zar (by kernel_rfl) ?_
 refine zaa (zd (za ?_))
 refine s_mv ?_
 refine zO (zaJ C13 B14 hn_g10) ?_
 refine s_as ?_
 refine zf ?_
 exact s_rn (fu,(g10+1),(g11++[v16])) ⟨by first | omega | (dsimp only;omega),F11,by first | omega | (dsimp only;omega)⟩ [(5040,54)]
 refine zA (zq (zp (zr (zd (za ?_)))))
 refine s_mv ?_
 refine zJ yA38 yS38 ?_
 refine s_bs Hit.row [(Hit.mk v8 (w64 (v9+1)) (Form.mk 0 (⟨#[]⟩:ByteArray) 0 ([]:List Int) ([]:List Form)) g11)] yP30 yR38 ?_
 obtain ⟨hk18,F9⟩:=zab F8
 refine zd4 Hit.row (fun y=>Hit.row_len y) hk18 yP30 ?_
 refine s_as ?_
 refine zf (zaa (zd (za ?_)))
 refine s_mv ?_
 refine zO rfl ?_
 refine s_as ?_
 refine zf ?_
 exact s_rn (fu,(g3++[(Hit.mk v8 (w64 (v9+1)) (Form.mk 0 (⟨#[]⟩:ByteArray) 0 ([]:List Int) ([]:List Form)) g11)]),(w64 (g4+1))) ⟨by first | omega | (dsimp only;omega),F9⟩ [(5020,59)]
 refine zA (zq (zp (zr (zd (zb (za ?_))))))
 refine s_mv ?_
 refine s_as ?_
 refine zf (zd (zh (zn ?_)))
 cases F4
 exact zl [] [5020] Tryz.results119
def zfy (fuel:Nat):Prop:=∀ (x1:(List Bind)) (x2:(List Form)) (x3:(List Form)) (x4:(List Form)) (r:((List Hit) × Bool)),ze9 fuel x1 x2 x3 x4=some r→AC Tryz.prog 75 [.t (.sl (x1.map Bind.row)),.t (.sl (x2.map Form.row)),.t (.sl (x3.map Form.row)),.t (.sl (x4.map Form.row))] noOb (.tp [.t (.sl (r.1.map Hit.row)),.t (.sc (.bool r.2))]) noOb
def zdV (fuel:Nat):Prop:=∀ (x1:(List Bind)) (x2:Form) (x3:(List Form)) (x4:Form) (r:((List Hit) × Bool)),zb8 fuel x1 x2 x3 x4=some r→AC Tryz.prog 25 [.t (.sl (x1.map Bind.row)),.ag [.t (.sc (.int .i64 x2.kind)),.t (.sc (.str x2.name)),.t (.sc (.int .i64 x2.n)),.t (.sl (x2.scopes.map rI)),.t (.sl (x2.kids.map Form.row))],.t (.sl (x3.map Form.row)),.ag [.t (.sc (.int .i64 x4.kind)),.t (.sc (.str x4.name)),.t (.sc (.int .i64 x4.n)),.t (.sl (x4.scopes.map rI)),.t (.sl (x4.kids.map Form.row))]] noOb (.tp [.t (.sl (r.1.map Hit.row)),.t (.sc (.bool r.2))]) noOb
theorem m_spec_l4List_st (fu:Nat) (ih_m_spec_l4List:∀ k,k≤fu→zfy k) (ih_m_spec_l4Match:∀ k,k≤fu→zdV k):zfy (fu+1):=by
 intro x1 x2 x3 x4 r F0
 rw [ze9] at F0
 refine AC_i [.t (.sl (r.1.map Hit.row)),.t (.sc (.bool r.2))] Tryz.func75 rfl Tryz.ntmps75 ?_
 intro C hC
 refine zb (za ?_)
 refine s_as ?_
 refine s_as ?_
 refine zf (zd (zb (za ?_)))
 refine s_bs Hit.row ([]:List Hit) yP30 yR38 ?_
 refine s_as ?_
 refine zf (zd (zb (za ?_)))
 refine s_as ?_
 refine zf (zd ?_)
 refine zbj (α:=Nat × Int) [11,12,22,23,24,25,26,27,28,29,30,31,32,33,34,35] [] [] (fun a=>[(11,.t (.sc (.int .i64 a.2)))]) (fun a=>[]) (fun a=>a.1≤fu∧zdA a.1 x1 x2 x3 x4 a.2=some r) ?_ ?_
 refine zb (za ?_)
 refine s_as ?_
 refine zf (zd (zk ?_))
 refine zbk (β:=Int × Int) [11,12,22,23,24,25,26,27,28,29,30,31,32,33,34,35] [] [] (fun a=>[(11,.t (.sc (.int .i64 a.2.1))),(12,.t (.sc (.int .i64 a.2.2)))]) (fun a=>[]) (fun a=>a.1≤fu∧za8 a.1 x1 x2 x3 x4 a.2.1 a.2.2=some r) (fu,(-1),0) ⟨Nat.le_refl _,F0⟩ ?_
 clear F0
 rintro ⟨fu,g1,g2⟩ ⟨hl3,F1⟩
 dsimp only at hl3 F1 ⊢
 obtain _ | fu:=fu
 · rw [za8] at F1;cases F1
 rw [za8] at F1
 refine zb (zb (za ?_))
 refine s_mv ?_
 refine zO rfl ?_
 refine s_mv ?_
 refine zF yU25 ?_
 refine s_lt ?_
 refine zf (zd ?_)
 refine zm F1 ?_ ?_<;>intro C4 F2
 refine zi (zd (zb (zk (zb (za ?_)))))
 refine s_mv ?_
 refine s_mv ?_
 refine zO rfl ?_
 obtain ⟨v5,V5,F3⟩:=zc F2
 refine zN Form.row V5 (Form.row_eq _) yE25 ?_
 refine zas yA27 yS27 ?_
 obtain ⟨v6,V6,F4⟩:=zc F3
 refine zx [] (zaO fu _ _ V6) ?_
 refine zf (zd ?_)
 refine zm F4 ?_ ?_<;>intro C7 F5
 refine za ?_
 refine s_mv ?_
 refine s_as ?_
 refine zf (zaa (zd (za ?_)))
 refine s_mv ?_
 refine zO rfl ?_
 refine s_as ?_
 refine zf ?_
 exact s_rn (fu,g2,(w64 (g2+1))) ⟨by first | omega | (dsimp only;omega),F5⟩
 refine zi (zaa (zd (za ?_)))
 refine s_mv ?_
 refine zO rfl ?_
 refine s_as ?_
 refine zf ?_
 exact s_rn (fu,g1,(w64 (g2+1))) ⟨by first | omega | (dsimp only;omega),F5⟩
 refine zA (zq (zp (zr ?_)))
 exact s_jn (fu,g1) ⟨by first | omega | (dsimp only;omega),F2⟩
 clear F0
 rintro ⟨fu,g8⟩ ⟨hl9,F1⟩
 dsimp only at hl9 F1 ⊢
 obtain _ | fu:=fu
 · rw [zdA] at F1;cases F1
 rw [zdA] at F1
 refine zbj (α:=Nat) [8,9,36,37,38,39,40,41,42,43,44,45,46,47,48,49,50,51,52,53,54,55,56,57] [] [] (fun a=>[]) (fun a=>[]) (fun a=>a≤fu∧zbT a x1 x2 x3 x4 g8 =some r) ?_ ?_
 refine zb (za ?_)
 refine s_mv ?_
 refine s_lt ?_
 refine s_mv ?_
 refine zo _ 38 F1 ?_ ?_<;>intro C10 F2
 refine s_mv ?_
 refine zF yU25 ?_
 refine s_mv ?_
 refine zF yU25 ?_
 refine s_ne ?_
 refine zz ?_
 refine s_mv ?_
 refine zo _ 45 F2 ?_ ?_<;>intro C11 F3
 iterate 10 refine r_no rfl ?_
 refine zz ?_
 refine zf (zd (zM rfl (zb (za ?_))))
 refine s_mv ?_
 refine s_as ?_
 refine s_as ?_
 refine zf (zd (zh (zfh (zn ?_))))
 cases F3
 exact zl [] [21] Tryz.results75
 refine s_mv ?_
 refine s_ge ?_
 refine s_mv ?_
 refine zo _ 48 F3 ?_ ?_<;>intro C12 F4
 refine s_mv ?_
 refine zF yU25 ?_
 refine s_mv ?_
 refine zF yU25 ?_
 refine zhq rfl ?_
 refine s_lt ?_
 refine zz ?_
 refine zB ?_
 refine zf (zd ?_)
 refine zm F4 ?_ ?_<;>intro C13 F5
 refine zb (za ?_)
 refine s_mv ?_
 refine s_as ?_
 refine s_as ?_
 refine zf (zd (zh (zfh (zn ?_))))
 cases F5
 exact zl [] [21] Tryz.results75
 refine zi ?_
 exact s_jn (fu) ⟨by first | omega | (dsimp only;omega),F5⟩
 iterate 6 refine r_no rfl ?_
 refine zB ?_
 refine zB ?_
 refine zf (zd (zaS rfl (zi ?_)))
 exact s_jn (fu) ⟨by first | omega | (dsimp only;omega),F4⟩
 iterate 5 refine r_no rfl ?_
 refine zB ?_
 refine s_mv ?_
 refine s_mv ?_
 refine s_ge ?_
 refine s_mv ?_
 refine zo _ 48 F2 ?_ ?_<;>intro C14 F3
 refine s_mv ?_
 refine zF yU25 ?_
 refine s_mv ?_
 refine zF yU25 ?_
 refine zhq rfl ?_
 refine s_lt ?_
 refine zz ?_
 refine zB ?_
 refine zf (zd ?_)
 refine zm F3 ?_ ?_<;>intro C15 F4
 refine zb (za ?_)
 refine s_mv ?_
 refine s_as ?_
 refine s_as ?_
 refine zf (zd (zh (zfh (zn ?_))))
 cases F4
 exact zl [] [21] Tryz.results75
 refine zi ?_
 exact s_jn (fu) ⟨by first | omega | (dsimp only;omega),F4⟩
 iterate 6 refine r_no rfl ?_
 refine zB ?_
 refine zB ?_
 refine zf (zd (zaS rfl (zi ?_)))
 exact s_jn (fu) ⟨by first | omega | (dsimp only;omega),F3⟩
 clear F1
 rintro fu ⟨hl16,F2⟩
 obtain _ | fu:=fu
 · rw [zbT] at F2;cases F2
 rw [zbT] at F2
 refine zb (za ?_)
 refine s_as ?_
 refine zf (zd (zb (zb (za ?_))))
 refine s_as ?_
 refine zf (zd (zk ?_))
 refine zdl 10 21 5080 (by conv=>lhs;whnf) (by conv=>lhs;whnf) rfl ?_
 refine zap [8,9,10,13,14,15,16,17,18,19,20,58,59,60,61,62,63,64,65,66,67,68,69,70,71,72,73,74,75,76,77,78,79,80,81,82,83,84,85,86,87,88,89,90,91,92,93,94,95,96,97,98,99,100,101,102,103,104,105,106,107,108,109,110,111,112,113,114,115,116,117,118,119,120,121,122,123,124,125,126,127,128,129,130,131,132,133,134,135,136] [5080] [91,94,136,5120] [5080] (fun a:Nat × Int × (List Hit) × Int=>a.1) (fun a:Nat × Int × (List Hit) × Int=>[(10,.ar 5080),(13,.t (.sc (.int .i64 a.2.2.2))),(14,.t (.sc (.int .i64 a.2.1)))]) (fun a:Nat × Int × (List Hit) × Int=>[(5080,.arr (a.2.2.1.map Hit.row) 38 true)]) (fun a:Nat × Int × (List Hit) × Int=>a.1≤fu∧zbD a.1 x1 x2 x3 x4 g8 a.2.1 a.2.2.1 a.2.2.2=some r∧0≤a.2.1) (fu,0,([]:List Hit),0) ⟨Nat.le_refl _,F2,by simp⟩ (by rfl) (by rfl) (fun _=>rfl) (zG (by conv=>lhs;whnf) (by rfl) (zG (by conv=>lhs;whnf) (by rfl) (zG (by conv=>lhs;whnf) (by rfl) za7))) (zT (by conv=>lhs;whnf) (by rfl) zaW) (zb7 hC rfl) (by repeat (first | exact zai rfl | refine zat rfl ?_ | refine zX rfl ?_)) (by repeat (first | exact zaL | exact zam rfl | refine zau rfl ?_ | refine zY rfl ?_)) ?_
 clear F2
 rintro ⟨fu,g17,g18,g19⟩ ⟨hl20,F3,hn_g17⟩
 dsimp only at hl20 F3 hn_g17 ⊢
 obtain _ | fu:=fu
 · rw [zbD] at F3;cases F3
 rw [zbD] at F3
 refine zb (zb (za ?_))
 refine s_mv ?_
 refine s_mv ?_
 refine zF yU25 ?_
 refine s_lt ?_
 refine zf (zd ?_)
 refine zm F3 ?_ ?_<;>intro C21 F4
 refine zW 1 (fun B22=>?_)
 refine zi (zd (zb (zk (zb (zb (za ?_))))))
 refine s_mv ?_
 refine s_mv ?_
 obtain ⟨v23,V23,F5⟩:=zc F4
 refine zN Form.row V23 (Form.row_eq _) yE25 ?_
 refine zas yA27 yS27 ?_
 obtain ⟨v24,V24,F6⟩:=zc F5
 refine zx [] (zaO fu _ _ V24) ?_
 refine zf (zd ?_)
 refine zm F6 ?_ ?_<;>intro C25 F7
 refine zA (zq (zr (zd (za ?_))))
 refine s_mv ?_
 refine zO (zaJ C21 B22 hn_g17) ?_
 refine s_as ?_
 refine zf ?_
 exact s_rn (fu,(g17+1),g18,g19) ⟨by first | omega | (dsimp only;omega),F7,by first | omega | (dsimp only;omega)⟩
 refine zi (zd (zb (zb (za ?_))))
 refine s_mv ?_
 refine s_mv ?_
 refine s_ne ?_
 refine zf (zd ?_)
 refine zm F7 ?_ ?_<;>intro C26 F8
 refine zb ?_
 refine z7 yMix (by kernel_rfl) ?_
 iterate 3 refine s_mv ?_
 obtain ⟨v27,V27,F9⟩:=zc F8
 refine zN Form.row V27 (Form.row_eq _) yE25 ?_
 refine zas yA27 yS27 ?_
 iterate 3 refine s_mv ?_
 obtain ⟨v28,V28,F10⟩:=zc F9
 refine zN Form.row V28 (Form.row_eq _) yE25 ?_
 refine zas yA27 yS27 ?_
 obtain ⟨v29,V29,F11⟩:=zc F10
 refine zx [] (ih_m_spec_l4Match fu (by omega) _ _ _ _ _ V29) ?_
 refine s_mv ?_
 refine zbJ ?_
 refine zbJ ?_
 refine s_as ?_
 refine s_as ?_
 refine zar (by kernel_rfl) ?_
 refine zd (zb (zb (za ?_)))
 refine s_mv ?_
 refine zbq ?_
 refine zf (zd ?_)
 refine zm F11 ?_ ?_<;>intro C30 F12
 refine zb (za ?_)
 refine s_mv ?_
 refine s_as ?_
 refine s_as ?_
 refine zf (zd (zh (zg (zg (zj (zg (zy (zj (zg (zn ?_))))))))))
 cases F12
 exact zl [] [5080] Tryz.results75
 refine zi (zd (zb (za ?_)))
 refine s_mv ?_
 refine s_mv ?_
 obtain ⟨hk31,F13⟩:=zab F12
 refine zd4 Hit.row (fun y=>Hit.row_len y) hk31 yP30 ?_
 refine s_as ?_
 refine zf (zd (zb (za ?_)))
 refine s_mv ?_
 refine zO rfl ?_
 refine s_as ?_
 refine zf (zd (zA (zq (zr (zd (za ?_))))))
 refine s_mv ?_
 refine zO (zaJ C21 B22 hn_g17) ?_
 refine s_as ?_
 refine zf ?_
 exact s_rn (fu,(g17+1),(g18++v29.1),(w64 (g19+1))) ⟨by first | omega | (dsimp only;omega),F13,by first | omega | (dsimp only;omega)⟩ [(5080,91)]
 refine zi (zd (zb (za ?_)))
 refine s_bs (rL Hit.row) ([]:List (List Hit)) yP130 yR30 ?_
 refine s_as ?_
 refine zf (zd ?_)
 refine zbj (α:=Nat × Int × (List (List Hit))) [8,9,13,17,18,19,20,95,96,97,98,99,100,101,102,103,104,105,106,107,108,109,110,111,112,113,114,115,116,117,118,119,120,121,122,123,124,125,126,127] [94,5120] [] (fun a=>[(13,.t (.sc (.int .i64 a.2.1))),(17,.ar 5120)]) (fun a=>[(94,.dead),(5120,.arr (a.2.2.map (rL Hit.row)) 30 true)]) (fun a=>a.1≤fu∧zdz a.1 x1 x2 x3 x4 g8 g17 g18 a.2.1 a.2.2=some r) ?_ ?_
 refine zb (za ?_)
 refine s_mv ?_
 refine zF yU25 ?_
 refine s_mv ?_
 refine zF yU25 ?_
 refine zhq rfl ?_
 refine zhq rfl ?_
 refine s_as ?_
 refine zf (zd (zk ?_))
 refine zdl 17 94 5120 (by conv=>lhs;whnf) (by conv=>lhs;whnf) rfl ?_
 refine zap [8,9,13,17,18,19,20,101,102,103,104,105,106,107,108,109,110,111,112,113,114,115,116,117,118,119,120,121,122,123,124,125,126,127] [5120] [124,125] [5120] (fun a:Nat × Int × (List (List Hit)) × Int=>a.1) (fun a:Nat × Int × (List (List Hit)) × Int=>[(13,.t (.sc (.int .i64 a.2.1))),(17,.ar 5120),(18,.t (.sc (.int .i64 a.2.2.2)))]) (fun a:Nat × Int × (List (List Hit)) × Int=>[(5120,.arr (a.2.2.1.map (rL Hit.row)) 30 true)]) (fun a:Nat × Int × (List (List Hit)) × Int=>a.1≤fu∧zcr a.1 x1 x2 x3 x4 g8 g17 g18 a.2.1 a.2.2.1 a.2.2.2=some r) (fu,g19,([]:List (List Hit)),(w64 ((x4.length:Int)-(w64 ((x2.length:Int)-2))))) ⟨Nat.le_refl _,F8⟩ (by rfl) (by rfl) (fun _=>rfl) (zG (by conv=>lhs;whnf) (by rfl) (zG (by conv=>lhs;whnf) (by rfl) (zG (by conv=>lhs;whnf) (by rfl) za7))) (zT (by conv=>lhs;whnf) (by rfl) zaW) (zb7 hC rfl) (by repeat (first | exact zai rfl | refine zat rfl ?_ | refine zX rfl ?_)) (by repeat (first | exact zaL | exact zam rfl | refine zau rfl ?_ | refine zY rfl ?_)) ?_
 clear F8
 rintro ⟨fu,g32,g33,g34⟩ ⟨hl35,F9⟩
 dsimp only at hl35 F9 ⊢
 obtain _ | fu:=fu
 · rw [zcr] at F9;cases F9
 rw [zcr] at F9
 refine zb (zb (za ?_))
 refine s_mv ?_
 refine s_gt ?_
 refine zf (zd ?_)
 refine zm F9 ?_ ?_<;>intro C36 F10
 refine zi (zd (zb (zk (zb ?_))))
 refine z7 yMix (by kernel_rfl) ?_
 iterate 3 refine s_mv ?_
 obtain ⟨v37,V37,F11⟩:=zc F10
 refine zN Form.row V37 (Form.row_eq _) yE25 ?_
 refine zas yA27 yS27 ?_
 iterate 3 refine s_mv ?_
 obtain ⟨v38,V38,F12⟩:=zc F11
 refine zN Form.row V38 (Form.row_eq _) yE25 ?_
 refine zas yA27 yS27 ?_
 obtain ⟨v39,V39,F13⟩:=zc F12
 refine zx [] (ih_m_spec_l4Match fu (by omega) _ _ _ _ _ V39) ?_
 refine s_mv ?_
 refine zbJ ?_
 refine zbJ ?_
 refine s_as ?_
 refine s_as ?_
 refine zar (by kernel_rfl) ?_
 refine zd (zb (zb (za ?_)))
 refine s_mv ?_
 refine zbq ?_
 refine zf (zd ?_)
 refine zm F13 ?_ ?_<;>intro C40 F14
 refine zb (za ?_)
 refine s_mv ?_
 refine s_as ?_
 refine s_as ?_
 refine zf (zd (zh (zg (zj (zg (zy (zj (zfh (zj (zg (zy (zj (zg (zn ?_))))))))))))))
 cases F14
 exact zl [] [5080] Tryz.results75
 refine zi (zd (zb (za ?_)))
 refine s_mv ?_
 refine s_mv ?_
 refine s_bs (rL Hit.row) [v39.1] yP130 yR30 ?_
 obtain ⟨hk41,F15⟩:=zab F14
 refine zd4 (rL Hit.row) (fun _=>rfl) hk41 yP130 ?_
 refine s_as ?_
 refine zf (zd (za ?_))
 refine s_mv ?_
 refine zO rfl ?_
 refine s_as ?_
 refine zf (zaa (zd (za ?_)))
 refine s_mv ?_
 refine zhq rfl ?_
 refine s_as ?_
 refine zf ?_
 exact s_rn (fu,(w64 (g32+1)),(g33++[v39.1]),(w64 (g34-1))) ⟨by first | omega | (dsimp only;omega),F15⟩ [(5120,125)]
 refine zA (zq (zp (zr ?_)))
 exact s_jn (fu,g32,g33) ⟨by first | omega | (dsimp only;omega),F10⟩
 clear F8
 rintro ⟨fu,g42,g43⟩ ⟨hl44,F9⟩
 dsimp only at hl44 F9 ⊢
 obtain _ | fu:=fu
 · rw [zdz] at F9;cases F9
 rw [zdz] at F9
 refine za ?_
 iterate 3 refine s_mv ?_
 obtain ⟨v45,V45,F10⟩:=zc F9
 refine zN Form.row V45 (Form.row_eq _) yE25 ?_
 refine zas yA27 yS27 ?_
 refine s_mv ?_
 refine s_mv ?_
 obtain ⟨v46,V46,F11⟩:=zc F10
 refine zx [5120] (m_spec_l4Row_ok fu _ _ _ _ V46) ?_
 obtain ⟨hk47,F12⟩:=zab F11
 refine zd4 Hit.row (fun y=>Hit.row_len y) hk47 yP30 ?_
 refine s_as ?_
 refine zf (zaa (zd (za ?_)))
 refine s_mv ?_
 refine zO (zaJ C21 B22 hn_g17) ?_
 refine s_as ?_
 refine zf ?_
 exact s_rn (fu,(g17+1),(g18++v46),g42) ⟨by first | omega | (dsimp only;omega),F12,by first | omega | (dsimp only;omega)⟩ [(5080,136)]
 refine zA (zq (zp (zr (zd (zb (za ?_))))))
 refine s_mv ?_
 refine s_as ?_
 refine s_as ?_
 refine zf (zd (zh (zn ?_)))
 cases F4
 exact zl [] [5080] Tryz.results75
end Go.Abs
