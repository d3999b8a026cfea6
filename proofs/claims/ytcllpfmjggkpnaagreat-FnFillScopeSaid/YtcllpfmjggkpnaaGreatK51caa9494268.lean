/- A part of the proof: what the functions that the law calls answer, as pure values. -/
import Derived.Test.YtcllpfmjggkpnaaGreatKcd1b73107f87
import Derived.Test.YtcllpfmjggkpnaaGreatK91fcc0fd7672
import Derived.Test.YtcllpfmjggkpnaaGreatKf8320a019dd3
import Derived.Test.YtcllpfmjggkpnaaGreatK1df75f79e59f
set_option linter.unusedSimpArgs false
set_option linter.unusedVariables false
set_option maxRecDepth 100000
set_option maxHeartbeats 4000000
namespace Go.Abs
open Go.Proofs
theorem m_spec_FormSame_all (fuel:Nat):zeM fuel:=by
 induction fuel using Nat.strongRecOn with
 | _ N ih =>
   cases N with
   | zero=>exact (by intro x1 x2 r h;rw [zav] at h;cases h)
   | succ fu=>exact m_spec_FormSame_st fu (fun k hk=>(ih k (by omega)))
theorem zcb (fuel:Nat):zeM fuel:=(m_spec_FormSame_all fuel)
def m_spec_l4In_AC (fuel:Nat):Prop:=∀ (x1:(List Form)) (x2:Form) (r:Bool),zeU fuel x1 x2=some r→AC Tryz.prog 69 [.t (.sl (x1.map Form.row)),.ag [.t (.sc (.int .i64 x2.kind)),.t (.sc (.str x2.name)),.t (.sc (.int .i64 x2.n)),.t (.sl (x2.scopes.map rI)),.t (.sl (x2.kids.map Form.row))]] noOb (.t (.sc (.bool r))) noOb
theorem zgs (fuel:Nat):m_spec_l4In_AC fuel:=by
 intro x1 x2 r F0
 unfold zeU at F0
 refine AC_i [.t (.sc (.bool r))] Tryz.func69 rfl Tryz.ntmps69 ?_
 intro C hC
 refine zb (za ?_)
 refine za9 ?_
 refine s_as ?_
 refine zf (zd (zb (zb (za ?_))))
 refine s_as ?_
 refine zf (zd (zk ?_))
 refine zbk (β:=Int) [4,5,6,7,8,9,10,11,12,13,14,15,16,17] [] [] (fun a=>[(5,.t (.sc (.int .i64 a.2)))]) (fun a=>[]) (fun a=>a.1≤fuel∧zdf a.1 x1 x2 a.2=some r∧0≤a.2) (fuel,0) ⟨Nat.le_refl _,F0,by simp⟩ ?_
 clear F0
 rintro ⟨fu,g1⟩ ⟨hl2,F1,hn_g1⟩
 dsimp only at hl2 F1 hn_g1 ⊢
 obtain _ | fu:=fu
 · rw [zdf] at F1;cases F1
 rw [zdf] at F1
 refine zb (zb (za ?_))
 refine s_mv ?_
 refine s_mv ?_
 refine zF yU25 ?_
 refine s_lt ?_
 refine zf (zd ?_)
 refine zm F1 ?_ ?_<;>intro C3 F2
 refine zW 0 (fun B4=>?_)
 refine zi (zd (zb (zk (zb ?_))))
 refine z7 yMix (by kernel_rfl) ?_
 refine s_mv ?_
 refine s_mv ?_
 obtain ⟨v5,V5,F3⟩:=zc F2
 refine zN Form.row V5 (Form.row_eq _) yE25 ?_
 refine zas yA27 yS27 ?_
 refine zJ yA27 yS27 ?_
 obtain ⟨v6,V6,F4⟩:=zc F3
 refine zx [] (zcb fu _ _ _ V6) ?_
 refine zar (by kernel_rfl) ?_
 refine zd ?_
 refine zm F4 ?_ ?_<;>intro C7 F5
 refine zb (za ?_)
 refine s_as ?_
 refine zf (zd (zh (zj (zg (zy (zj (zg (zn ?_))))))))
 cases F5
 exact zl [] [] Tryz.results69
 refine zi (zaa (zd (za ?_)))
 refine s_mv ?_
 refine zO (zaJ C3 B4 hn_g1) ?_
 refine s_as ?_
 refine zf ?_
 exact s_rn (fu,(g1+1)) ⟨by first | omega | (dsimp only;omega),F5,by first | omega | (dsimp only;omega)⟩
 refine zA (zq (zp (zr (zd (zb (za ?_))))))
 refine s_as ?_
 refine zf (zd (zh (zn ?_)))
 cases F2
 exact zl [] [] Tryz.results69
def m_spec_l4Literals_AC (fuel:Nat):Prop:=∀ (x1:(List Form)) (r:Bool),zdm fuel x1=some r→AC Tryz.prog 66 [.t (.sl (x1.map Form.row))] noOb (.t (.sc (.bool r))) noOb
theorem zgK (fuel:Nat):m_spec_l4Literals_AC fuel:=by
 intro x1 r F0
 unfold zdm at F0
 refine AC_i [.t (.sc (.bool r))] Tryz.func66 rfl Tryz.ntmps66 ?_
 intro C hC
 refine zb (za ?_)
 refine s_as ?_
 refine zf (zd (zb (zb (za ?_))))
 refine s_as ?_
 refine zf (zd (zk ?_))
 refine zbk (β:=Int) [2,3,4,5,6,7,8,9,10,11,12,13,14,15,16,17,18,19,20,21,22,23,24,25,26,27,28,29,30,31,32,33,34,35,36,37,38,39,40,41,42,43,44,45] [] [] (fun a=>[(3,.t (.sc (.int .i64 a.2)))]) (fun a=>[]) (fun a=>a.1≤fuel∧zbb a.1 x1 a.2=some r) (fuel,0) ⟨Nat.le_refl _,F0⟩ ?_
 clear F0
 rintro ⟨fu,g1⟩ ⟨hl2,F1⟩
 dsimp only at hl2 F1 ⊢
 obtain _ | fu:=fu
 · rw [zbb] at F1;cases F1
 rw [zbb] at F1
 refine zb (zb (za ?_))
 refine s_mv ?_
 refine s_mv ?_
 refine zF yU25 ?_
 refine s_lt ?_
 refine s_mv ?_
 refine zo _ 8 F1 ?_ ?_<;>intro C3 F2
 refine s_mv ?_
 refine s_lt ?_
 refine zz ?_
 refine zf (zd ?_)
 refine zm F2 ?_ ?_<;>intro C4 F3
 refine zi (zd (zb (zk (zb ?_))))
 refine z7 yMix (by kernel_rfl) ?_
 refine s_mv ?_
 refine s_mv ?_
 obtain ⟨v5,V5,F4⟩:=zc F3
 refine zN Form.row V5 (Form.row_eq _) yE25 ?_
 refine zas yA27 yS27 ?_
 obtain ⟨v6,V6,F5⟩:=zc F4
 refine zx [] (m_spec_l3Is_ok fu _ _ V6) ?_
 refine zbq ?_
 refine s_mv ?_
 refine zo _ 20 F5 ?_ ?_<;>intro C7 F6
 iterate 6 refine r_no rfl ?_
 refine zz ?_
 refine s_mv ?_
 iterate 6 refine r_no rfl ?_
 refine zz ?_
 refine s_mv ?_
 iterate 8 refine r_no rfl ?_
 refine zz ?_
 refine zar (by kernel_rfl) ?_
 refine zd (zM rfl (zb (za ?_)))
 refine s_as ?_
 refine zf (zd (zh (zj (zg (zy (zj (zg (zn ?_))))))))
 cases F6
 exact zl [] [] Tryz.results66
 refine s_mv ?_
 refine s_mv ?_
 obtain ⟨v8,V8,F7⟩:=zc F6
 refine zN Form.row V8 (Form.row_eq _) yE25 ?_
 refine s_fa zdp ?_
 refine zu yA9 ?_
 refine zht ?_
 refine zB ?_
 refine s_mv ?_
 refine zo _ 28 F7 ?_ ?_<;>intro C9 F8
 iterate 6 refine r_no rfl ?_
 refine zz ?_
 refine s_mv ?_
 iterate 8 refine r_no rfl ?_
 refine zz ?_
 refine zar (by kernel_rfl) ?_
 refine zd (zM rfl (zb (za ?_)))
 refine s_as ?_
 refine zf (zd (zh (zj (zg (zy (zj (zg (zn ?_))))))))
 cases F8
 exact zl [] [] Tryz.results66
 refine s_mv ?_
 refine s_mv ?_
 obtain ⟨v10,V10,F9⟩:=zc F8
 refine zN Form.row V10 (Form.row_eq _) yE25 ?_
 refine s_fa zdp ?_
 refine zu yA9 ?_
 refine zht ?_
 refine zB ?_
 refine s_mv ?_
 refine zo _ 36 F9 ?_ ?_<;>intro C11 F10
 iterate 8 refine r_no rfl ?_
 refine zz ?_
 refine zar (by kernel_rfl) ?_
 refine zd (zM rfl (zb (za ?_)))
 refine s_as ?_
 refine zf (zd (zh (zj (zg (zy (zj (zg (zn ?_))))))))
 cases F10
 exact zl [] [] Tryz.results66
 refine s_mv ?_
 refine s_mv ?_
 obtain ⟨v12,V12,F11⟩:=zc F10
 refine s_sl01 Form.row (fun y=>Form.row_len y) V12 yU25 yE25 ?_
 refine s_mv ?_
 refine s_mv ?_
 obtain ⟨v13,V13,F12⟩:=zc F11
 refine zN Form.row V13 (Form.row_eq _) yE25 ?_
 refine zas yA27 yS27 ?_
 obtain ⟨v14,V14,F13⟩:=zc F12
 refine zx [] (zgs fu _ _ _ V14) ?_
 refine zB ?_
 refine zar (by kernel_rfl) ?_
 refine zd ?_
 refine zm F13 ?_ ?_<;>intro C15 F14
 refine zb (za ?_)
 refine s_as ?_
 refine zf (zd (zh (zj (zg (zy (zj (zg (zn ?_))))))))
 cases F14
 exact zl [] [] Tryz.results66
 refine zi (zaa (zd (za ?_)))
 refine s_mv ?_
 refine zO rfl ?_
 refine s_as ?_
 refine zf ?_
 exact s_rn (fu,(w64 (g1+1))) ⟨by first | omega | (dsimp only;omega),F14⟩
 refine zA (zq (zp (zr (zd (zb (za ?_))))))
 refine s_mv ?_
 refine zF yU25 ?_
 refine s_lt ?_
 refine s_as ?_
 refine zf (zd (zh (zn ?_)))
 cases F3
 exact zl [] [] Tryz.results66
 refine r_no rfl (r_no rfl ?_)
 refine zB ?_
 refine zf (zd (zaS rfl (zA (zq (zp (zr (zd (zb (za ?_)))))))))
 refine s_mv ?_
 refine zF yU25 ?_
 refine s_lt ?_
 refine s_as ?_
 refine zf (zd (zh (zn ?_)))
 cases F2
 exact zl [] [] Tryz.results66
def m_spec_l4Dots_AC (fuel:Nat):Prop:=∀ (x1:Form) (r:Bool),zaV fuel x1=some r→AC Tryz.prog 101 [.ag [.t (.sc (.int .i64 x1.kind)),.t (.sc (.str x1.name)),.t (.sc (.int .i64 x1.n)),.t (.sl (x1.scopes.map rI)),.t (.sl (x1.kids.map Form.row))]] noOb (.t (.sc (.bool r))) noOb
theorem zaO (fuel:Nat):m_spec_l4Dots_AC fuel:=by
 intro x1 r F0
 unfold zaV at F0
 refine AC_i [.t (.sc (.bool r))] Tryz.func101 rfl Tryz.ntmps101 ?_
 intro C hC
 refine zb (za ?_)
 refine za9 ?_
 refine s_as ?_
 refine zf (zd (zb (za ?_)))
 refine s_fa zcT ?_
 refine zu yA3 ?_
 refine s_eq ?_
 refine s_mv ?_
 refine zo _ 6 F0 ?_ ?_<;>intro C1 F1
 refine s_fa zdp ?_
 refine zu yA9 ?_
 refine zht ?_
 refine zz ?_
 refine s_as ?_
 refine zf (zd (zh (zn ?_)))
 cases F1
 exact zl [] [] Tryz.results101
 iterate 3 refine r_no rfl ?_
 refine zB ?_
 refine s_as ?_
 refine zf (zd (zh (zn ?_)))
 cases F1
 exact zl [] [] Tryz.results101
def ze8 (fuel:Nat):Prop:=∀ (x1:Form) (r:Bool),zdN fuel x1=some r→AC Tryz.prog 67 [.ag [.t (.sc (.int .i64 x1.kind)),.t (.sc (.str x1.name)),.t (.sc (.int .i64 x1.n)),.t (.sl (x1.scopes.map rI)),.t (.sl (x1.kids.map Form.row))]] noOb (.t (.sc (.bool r))) noOb
theorem m_spec_l4Shape_st (fu:Nat) (ih_m_spec_l4Shape:∀ k,k≤fu→ze8 k):ze8 (fu+1):=by
 intro x1 r F0
 rw [zdN] at F0
 refine AC_i [.t (.sc (.bool r))] Tryz.func67 rfl Tryz.ntmps67 ?_
 intro C hC
 refine zb (za ?_)
 refine za9 ?_
 refine s_as ?_
 refine zf (zd (zb (zb (za ?_))))
 refine zJ yA27 yS27 ?_
 obtain ⟨v1,V1,F1⟩:=zc F0
 refine zx [] (zaO fu _ _ V1) ?_
 refine zf (zd ?_)
 refine zm F1 ?_ ?_<;>intro C2 F2
 refine zb (za ?_)
 refine s_as ?_
 refine zf (zd (zh (zg (zn ?_))))
 cases F2
 exact zl [] [] Tryz.results67
 refine zi (zd (zb (za ?_)))
 refine s_as ?_
 refine zf (zd (zb (zb (za ?_))))
 refine s_as ?_
 refine zf (zd (zk ?_))
 refine zbk (β:=Int × Int) [2,3,4,7,8,9,10,11,12,13,14,15,16,17,18,19,20,21,22,23,24,25,26,27,28,29,30,31,32,33,34,35,36,37,38,39] [] [] (fun a=>[(3,.t (.sc (.int .i64 a.2.1))),(4,.t (.sc (.int .i64 a.2.2)))]) (fun a=>[]) (fun a=>a.1≤fu∧zbH a.1 x1 a.2.1 a.2.2=some r∧0≤a.2.2) (fu,0,0) ⟨Nat.le_refl _,F2,by simp⟩ ?_
 clear F2
 rintro ⟨fu,g3,g4⟩ ⟨hl5,F3,hn_g4⟩
 dsimp only at hl5 F3 hn_g4 ⊢
 obtain _ | fu:=fu
 · rw [zbH] at F3;cases F3
 rw [zbH] at F3
 refine zb (zb (za ?_))
 refine s_mv ?_
 refine s_fa zH ?_
 refine zu yA25 ?_
 refine zF yU25 ?_
 refine s_lt ?_
 refine zf (zd ?_)
 refine zm F3 ?_ ?_<;>intro C6 F4
 refine zW 9 (fun B7=>?_)
 refine zi (zd (zb (zk (zb (zb (za ?_))))))
 refine s_fa zH ?_
 refine zu yA25 ?_
 refine s_mv ?_
 obtain ⟨v8,V8,F5⟩:=zc F4
 refine zN Form.row V8 (Form.row_eq _) yE25 ?_
 refine zas yA27 yS27 ?_
 obtain ⟨v9,V9,F6⟩:=zc F5
 refine zx [] (zaO fu _ _ V9) ?_
 refine zf (zd ?_)
 refine zm F6 ?_ ?_<;>intro C10 F7
 refine zb (za ?_)
 refine s_mv ?_
 refine zO rfl ?_
 refine s_as ?_
 refine zf (zd (zb (zb (za ?_))))
 refine s_mv ?_
 refine s_eq ?_
 refine s_mv ?_
 refine zo _ 24 F7 ?_ ?_<;>intro C11 F8
 iterate 7 refine r_no rfl ?_
 refine zz ?_
 refine zf (zd (zM rfl (zb (za ?_))))
 refine s_as ?_
 refine zf (zd (zh (zg (zg (zj (zg (zy (zj (zg (zn ?_))))))))))
 cases F8
 exact zl [] [] Tryz.results67
 refine s_fa zH ?_
 refine zu yA25 ?_
 refine s_mv ?_
 refine zhq rfl ?_
 obtain ⟨v12,V12,F9⟩:=zc F8
 refine zN Form.row V12 (Form.row_eq _) yE25 ?_
 refine zas yA27 yS27 ?_
 obtain ⟨v13,V13,F10⟩:=zc F9
 refine zx [] (zaO fu _ _ V13) ?_
 refine zB ?_
 refine zf (zd ?_)
 refine zm F10 ?_ ?_<;>intro C14 F11
 refine zb (za ?_)
 refine s_as ?_
 refine zf (zd (zh (zg (zg (zj (zg (zy (zj (zg (zn ?_))))))))))
 cases F11
 exact zl [] [] Tryz.results67
 refine zi (zd (zA (zq (zr (zd (za ?_))))))
 refine s_mv ?_
 refine zO (zaJ C6 B7 hn_g4) ?_
 refine s_as ?_
 refine zf ?_
 exact s_rn (fu,(w64 (g3+1)),(g4+1)) ⟨by first | omega | (dsimp only;omega),F11,by first | omega | (dsimp only;omega)⟩
 refine zi (zd (zb (za ?_)))
 refine s_fa zH ?_
 refine zu yA25 ?_
 refine s_mv ?_
 obtain ⟨v15,V15,F8⟩:=zc F7
 refine zN Form.row V15 (Form.row_eq _) yE25 ?_
 refine zas yA27 yS27 ?_
 obtain ⟨v16,V16,F9⟩:=zc F8
 refine zx [] (ih_m_spec_l4Shape fu (by omega) _ _ V16) ?_
 refine zbq ?_
 refine zf (zd ?_)
 refine zm F9 ?_ ?_<;>intro C17 F10
 refine zb (za ?_)
 refine s_as ?_
 refine zf (zd (zh (zj (zg (zy (zj (zg (zn ?_))))))))
 cases F10
 exact zl [] [] Tryz.results67
 refine zi (zaa (zd (za ?_)))
 refine s_mv ?_
 refine zO (zaJ C6 B7 hn_g4) ?_
 refine s_as ?_
 refine zf ?_
 exact s_rn (fu,g3,(g4+1)) ⟨by first | omega | (dsimp only;omega),F10,by first | omega | (dsimp only;omega)⟩
 refine zA (zq (zp (zr (zd (zb (za ?_))))))
 refine s_mv ?_
 refine s_le ?_
 refine s_as ?_
 refine zf (zd (zh (zn ?_)))
 cases F4
 exact zl [] [] Tryz.results67
theorem m_spec_l4Shape_all (fuel:Nat):ze8 fuel:=by
 induction fuel using Nat.strongRecOn with
 | _ N ih =>
   cases N with
   | zero=>exact (by intro x1 r h;rw [zdN] at h;cases h)
   | succ fu=>exact m_spec_l4Shape_st fu (fun k hk=>(ih k (by omega)))
theorem m_spec_l4Shape_ok (fuel:Nat):ze8 fuel:=(m_spec_l4Shape_all fuel)
def m_spec_l4Var_AC (fuel:Nat):Prop:=∀ (x1:Form) (x2:(List Form)) (r:Bool),zfR fuel x1 x2=some r→AC Tryz.prog 117 [.ag [.t (.sc (.int .i64 x1.kind)),.t (.sc (.str x1.name)),.t (.sc (.int .i64 x1.n)),.t (.sl (x1.scopes.map rI)),.t (.sl (x1.kids.map Form.row))],.t (.sl (x2.map Form.row))] noOb (.t (.sc (.bool r))) noOb
theorem m_spec_l4Var_ok (fuel:Nat):m_spec_l4Var_AC fuel:=by
 intro x1 x2 r F0
 unfold zfR at F0
 refine AC_i [.t (.sc (.bool r))] Tryz.func117 rfl Tryz.ntmps117 ?_
 intro C hC
 refine zb (za ?_)
 refine za9 ?_
 refine s_as ?_
 refine zf (zd (zb (za ?_)))
 refine s_fa zcT ?_
 refine zu yA3 ?_
 refine s_eq ?_
 refine s_mv ?_
 refine zo _ 8 F0 ?_ ?_<;>intro C1 F1
 refine s_fa zdp ?_
 refine zu yA9 ?_
 refine s_neS ?_
 refine zz ?_
 refine s_mv ?_
 refine zo _ 13 F1 ?_ ?_<;>intro C2 F2
 refine s_fa zdp ?_
 refine zu yA9 ?_
 refine s_neS ?_
 refine zz ?_
 refine s_mv ?_
 refine zo _ 18 F2 ?_ ?_<;>intro C3 F3
 refine s_mv ?_
 refine zJ yA27 yS27 ?_
 obtain ⟨v4,V4,F4⟩:=zc F3
 refine zx [] (zgs fuel _ _ _ V4) ?_
 refine zbq ?_
 refine zz ?_
 refine s_as ?_
 refine zf (zd (zh (zn ?_)))
 cases F4
 exact zl [] [] Tryz.results117
 iterate 4 refine r_no rfl ?_
 refine zB ?_
 refine s_as ?_
 refine zf (zd (zh (zn ?_)))
 cases F3
 exact zl [] [] Tryz.results117
 iterate 3 refine r_no rfl ?_
 refine zB ?_
 refine s_mv ?_
 iterate 4 refine r_no rfl ?_
 refine zB ?_
 refine s_as ?_
 refine zf (zd (zh (zn ?_)))
 cases F2
 exact zl [] [] Tryz.results117
 iterate 3 refine r_no rfl ?_
 refine zB ?_
 refine s_mv ?_
 iterate 3 refine r_no rfl ?_
 refine zB ?_
 refine s_mv ?_
 iterate 4 refine r_no rfl ?_
 refine zB ?_
 refine s_as ?_
 refine zf (zd (zh (zn ?_)))
 cases F1
 exact zl [] [] Tryz.results117
def zfx (fuel:Nat):Prop:=∀ (x1:(List Form)) (x2:Form) (x3:(List Form)) (r:(List Form)),zcH fuel x1 x2 x3=some r→AC Tryz.prog 68 [.ar 9300,.ag [.t (.sc (.int .i64 x2.kind)),.t (.sc (.str x2.name)),.t (.sc (.int .i64 x2.n)),.t (.sl (x2.scopes.map rI)),.t (.sl (x2.kids.map Form.row))],.t (.sl (x3.map Form.row))] (objs [(9300,.arr (x1.map Form.row) 27 true)]) (.ar 9200) (objs [(9300,.dead),(9200,.arr (r.map Form.row) 27 true)])
theorem m_spec_l4Vars_st (fu:Nat) (ih_m_spec_l4Vars:∀ k,k≤fu→zfx k):zfx (fu+1):=by
 intro x1 x2 x3 r F0
 rw [zcH] at F0
 refine AC_i [.ar 9200] Tryz.func68 rfl Tryz.ntmps68 ?_
 intro C hC
 refine zb (za ?_)
 refine za9 ?_
 refine s_as ?_
 refine zf (zd (zb (zb (za ?_))))
 refine zJ yA27 yS27 ?_
 refine s_mv ?_
 obtain ⟨v1,V1,F1⟩:=zc F0
 refine zx [] (m_spec_l4Var_ok fu _ _ _ V1) ?_
 refine zf (zd ?_)
 refine zm F1 ?_ ?_<;>intro C2 F2
 refine za ?_
 refine s_mv ?_
 refine zJ yA27 yS27 ?_
 refine s_bs Form.row [x2] yP25 yR27 ?_
 obtain ⟨hk3,F3⟩:=zab F2
 refine zd4 Form.row (fun y=>Form.row_len y) hk3 yP25 ?_
 refine s_as ?_
 refine zf (zd (zb (zb (za ?_))))
 refine s_as ?_
 refine zf (zd (zk ?_))
 refine zdl 0 14 5020 (by conv=>lhs;whnf) (by conv=>lhs;whnf) rfl ?_
 refine zap [0,7,15,16,17,18,19,20,21,22,23,24,25,26,27,28,29] [5020] [12029] [5020] (fun a:Nat × (List Form) × Int=>a.1) (fun a:Nat × (List Form) × Int=>[(0,.ar 5020),(7,.t (.sc (.int .i64 a.2.2)))]) (fun a:Nat × (List Form) × Int=>[(5020,.arr (a.2.1.map Form.row) 27 true)]) (fun a:Nat × (List Form) × Int=>a.1≤fu∧zaN a.1 x2 x3 a.2.1 a.2.2=some r∧0≤a.2.2) (fu,(x1++[x2]),0) ⟨Nat.le_refl _,F3,by simp⟩ (by rfl) (by rfl) (fun _=>rfl) (zG (by conv=>lhs;whnf) (by rfl) (zG (by conv=>lhs;whnf) (by rfl) za7)) (zT (by conv=>lhs;whnf) (by rfl) zaW) (zb7 hC rfl) (by repeat (first | exact zai rfl | refine zat rfl ?_ | refine zX rfl ?_)) (by repeat (first | exact zaL | exact zam rfl | refine zau rfl ?_ | refine zY rfl ?_)) ?_
 clear F3
 rintro ⟨fu,g4,g5⟩ ⟨hl6,F4,hn_g5⟩
 dsimp only at hl6 F4 hn_g5 ⊢
 obtain _ | fu:=fu
 · rw [zaN] at F4;cases F4
 rw [zaN] at F4
 refine zb (zb (za ?_))
 refine s_mv ?_
 refine s_fa zH ?_
 refine zu yA25 ?_
 refine zF yU25 ?_
 refine s_lt ?_
 refine zf (zd ?_)
 refine zm F4 ?_ ?_<;>intro C7 F5
 refine zW 17 (fun B8=>?_)
 refine zi (zd (zb (zk (za ?_))))
 refine s_mv ?_
 refine s_fa zH ?_
 refine zu yA25 ?_
 refine s_mv ?_
 obtain ⟨v9,V9,F6⟩:=zc F5
 refine zN Form.row V9 (Form.row_eq _) yE25 ?_
 refine zas yA27 yS27 ?_
 refine s_mv ?_
 obtain ⟨v10,V10,F7⟩:=zc F6
 refine zU [(9300,5020),(9200,12029)] [] _ _ (ih_m_spec_l4Vars fu (by omega) _ _ _ _ V10) ?_
 refine s_as ?_
 refine zf (zaa (zd (za ?_)))
 refine s_mv ?_
 refine zO (zaJ C7 B8 hn_g5) ?_
 refine s_as ?_
 refine zf ?_
 exact s_rn (fu,v10,(g5+1)) ⟨by first | omega | (dsimp only;omega),F7,by first | omega | (dsimp only;omega)⟩ [(5020,12029)]
 refine zA (zq (zp (zr (zd (zb (za ?_))))))
 refine s_mv ?_
 refine s_as ?_
 refine zf (zd ?_)
 refine zdl 6 5020 9200 (by conv=>lhs;whnf) (by conv=>lhs;whnf) rfl ?_
 refine zh (zn ?_)
 cases F5
 exact zl _ [] Tryz.results68
 refine zi (zd (zb (zb (za ?_))))
 refine s_as ?_
 refine zf (zd (zk ?_))
 refine zdl 0 9300 5040 (by conv=>lhs;whnf) (by conv=>lhs;whnf) rfl ?_
 refine zap [0,7,15,16,17,18,19,20,21,22,23,24,25,26,27,28,29] [5040] [12029] [5040] (fun a:Nat × (List Form) × Int=>a.1) (fun a:Nat × (List Form) × Int=>[(0,.ar 5040),(7,.t (.sc (.int .i64 a.2.2)))]) (fun a:Nat × (List Form) × Int=>[(5040,.arr (a.2.1.map Form.row) 27 true)]) (fun a:Nat × (List Form) × Int=>a.1≤fu∧zaN a.1 x2 x3 a.2.1 a.2.2=some r∧0≤a.2.2) (fu,x1,0) ⟨Nat.le_refl _,F2,by simp⟩ (by rfl) (by rfl) (fun _=>rfl) (zG (by conv=>lhs;whnf) (by rfl) (zG (by conv=>lhs;whnf) (by rfl) za7)) (zT (by conv=>lhs;whnf) (by rfl) zaW) (zb7 hC rfl) (by repeat (first | exact zai rfl | refine zat rfl ?_ | refine zX rfl ?_)) (by repeat (first | exact zaL | exact zam rfl | refine zau rfl ?_ | refine zY rfl ?_)) ?_
 clear F2
 rintro ⟨fu,g11,g12⟩ ⟨hl13,F3,hn_g12⟩
 dsimp only at hl13 F3 hn_g12 ⊢
 obtain _ | fu:=fu
 · rw [zaN] at F3;cases F3
 rw [zaN] at F3
 refine zb (zb (za ?_))
 refine s_mv ?_
 refine s_fa zH ?_
 refine zu yA25 ?_
 refine zF yU25 ?_
 refine s_lt ?_
 refine zf (zd ?_)
 refine zm F3 ?_ ?_<;>intro C14 F4
 refine zW 17 (fun B15=>?_)
 refine zi (zd (zb (zk (za ?_))))
 refine s_mv ?_
 refine s_fa zH ?_
 refine zu yA25 ?_
 refine s_mv ?_
 obtain ⟨v16,V16,F5⟩:=zc F4
 refine zN Form.row V16 (Form.row_eq _) yE25 ?_
 refine zas yA27 yS27 ?_
 refine s_mv ?_
 obtain ⟨v17,V17,F6⟩:=zc F5
 refine zU [(9300,5040),(9200,12029)] [] _ _ (ih_m_spec_l4Vars fu (by omega) _ _ _ _ V17) ?_
 refine s_as ?_
 refine zf (zaa (zd (za ?_)))
 refine s_mv ?_
 refine zO (zaJ C14 B15 hn_g12) ?_
 refine s_as ?_
 refine zf ?_
 exact s_rn (fu,v17,(g12+1)) ⟨by first | omega | (dsimp only;omega),F6,by first | omega | (dsimp only;omega)⟩ [(5040,12029)]
 refine zA (zq (zp (zr (zd (zb (za ?_))))))
 refine s_mv ?_
 refine s_as ?_
 refine zf (zd ?_)
 refine zdl 6 5040 9200 (by conv=>lhs;whnf) (by conv=>lhs;whnf) rfl ?_
 refine zh (zn ?_)
 cases F4
 exact zl _ [] Tryz.results68
theorem m_spec_l4Vars_all (fuel:Nat):zfx fuel:=by
 induction fuel using Nat.strongRecOn with
 | _ N ih =>
   cases N with
   | zero=>exact (by intro x1 x2 x3 r h;rw [zcH] at h;cases h)
   | succ fu=>exact m_spec_l4Vars_st fu (fun k hk=>(ih k (by omega)))
theorem zgD (fuel:Nat):zfx fuel:=(m_spec_l4Vars_all fuel)
def zeK (fuel:Nat):Prop:=∀ (x1:(List Int)) (x2:Form) (x3:(List Form)) (x4:Int) (r:(List Int)),zaY fuel x1 x2 x3 x4=some r→AC Tryz.prog 70 [.ar 9300,.ag [.t (.sc (.int .i64 x2.kind)),.t (.sc (.str x2.name)),.t (.sc (.int .i64 x2.n)),.t (.sl (x2.scopes.map rI)),.t (.sl (x2.kids.map Form.row))],.t (.sl (x3.map Form.row)),.t (.sc (.int .i64 x4))] (objs [(9300,.arr (x1.map rI) 3 true)]) (.ar 9200) (objs [(9300,.dead),(9200,.arr (r.map rI) 3 true)])
theorem m_spec_l4Depths_st (fu:Nat) (ih_m_spec_l4Depths:∀ k,k≤fu→zeK k):zeK (fu+1):=by
 intro x1 x2 x3 x4 r F0
 rw [zaY] at F0
 refine AC_i [.ar 9200] Tryz.func70 rfl Tryz.ntmps70 ?_
 intro C hC
 refine zb (za ?_)
 refine za9 ?_
 refine s_as ?_
 refine zf (zd (zb (zb (za ?_))))
 refine zJ yA27 yS27 ?_
 refine s_mv ?_
 obtain ⟨v1,V1,F1⟩:=zc F0
 refine zx [] (m_spec_l4Var_ok fu _ _ _ V1) ?_
 refine zf (zd ?_)
 refine zm F1 ?_ ?_<;>intro C2 F2
 refine za ?_
 refine s_mv ?_
 refine s_mv ?_
 refine s_bs rI [x4] yP24 yR3 ?_
 obtain ⟨hk3,F3⟩:=zab F2
 refine zd4 rI (fun _=>rfl) hk3 yP24 ?_
 refine s_as ?_
 refine zf (zd (zb (zb (za ?_))))
 refine s_as ?_
 refine zf (zd (zk ?_))
 refine zdl 0 17 5020 (by conv=>lhs;whnf) (by conv=>lhs;whnf) rfl ?_
 refine zap [0,9,10,18,19,20,21,22,23,24,25,26,27,28,29,30,31,32,33,34,35,36,37,38,39,40,41,42,43,44,45,46,47,48,49,50,51] [5020] [12051] [5020] (fun a:Nat × (List Int) × Int=>a.1) (fun a:Nat × (List Int) × Int=>[(0,.ar 5020),(9,.t (.sc (.int .i64 a.2.2)))]) (fun a:Nat × (List Int) × Int=>[(5020,.arr (a.2.1.map rI) 3 true)]) (fun a:Nat × (List Int) × Int=>a.1≤fu∧zag a.1 x2 x3 x4 a.2.1 a.2.2=some r∧0≤a.2.2) (fu,(x1++[x4]),0) ⟨Nat.le_refl _,F3,by simp⟩ (by rfl) (by rfl) (fun _=>rfl) (zG (by conv=>lhs;whnf) (by rfl) (zG (by conv=>lhs;whnf) (by rfl) za7)) (zT (by conv=>lhs;whnf) (by rfl) zaW) (zb7 hC rfl) (by repeat (first | exact zai rfl | refine zat rfl ?_ | refine zX rfl ?_)) (by repeat (first | exact zaL | exact zam rfl | refine zau rfl ?_ | refine zY rfl ?_)) ?_
 clear F3
 rintro ⟨fu,g4,g5⟩ ⟨hl6,F4,hn_g5⟩
 dsimp only at hl6 F4 hn_g5 ⊢
 obtain _ | fu:=fu
 · rw [zag] at F4;cases F4
 rw [zag] at F4
 refine zb (zb (za ?_))
 refine s_mv ?_
 refine s_fa zH ?_
 refine zu yA25 ?_
 refine zF yU25 ?_
 refine s_lt ?_
 refine zf (zd ?_)
 refine zm F4 ?_ ?_<;>intro C7 F5
 refine zW 20 (fun B8=>?_)
 refine zi (zd (zb (zk (zb (za ?_)))))
 refine s_mv ?_
 refine s_as ?_
 refine zf (zd (zb (zb (za ?_))))
 refine s_mv ?_
 refine zO (zaJ C7 B8 hn_g5) ?_
 refine s_fa zH ?_
 refine zu yA25 ?_
 refine zF yU25 ?_
 refine s_lt ?_
 refine s_mv ?_
 refine zo _ 32 F5 ?_ ?_<;>intro C9 F6
 refine s_fa zH ?_
 refine zu yA25 ?_
 refine s_mv ?_
 refine zO (zaJ C7 B8 hn_g5) ?_
 obtain ⟨v10,V10,F7⟩:=zc F6
 refine zN Form.row V10 (Form.row_eq _) yE25 ?_
 refine zas yA27 yS27 ?_
 obtain ⟨v11,V11,F8⟩:=zc F7
 refine zx [] (zaO fu _ _ V11) ?_
 refine zz ?_
 refine zf (zd ?_)
 refine zm F8 ?_ ?_<;>intro C12 F9
 refine za ?_
 refine s_mv ?_
 refine zO rfl ?_
 refine s_as ?_
 refine zf (zd (za ?_))
 refine s_mv ?_
 refine s_fa zH ?_
 refine zu yA25 ?_
 refine s_mv ?_
 obtain ⟨v13,V13,F10⟩:=zc F9
 refine zN Form.row V13 (Form.row_eq _) yE25 ?_
 refine zas yA27 yS27 ?_
 refine s_mv ?_
 refine s_mv ?_
 obtain ⟨v14,V14,F11⟩:=zc F10
 refine zU [(9300,5020),(9200,12051)] [] _ _ (ih_m_spec_l4Depths fu (by omega) _ _ _ _ _ V14) ?_
 refine s_as ?_
 refine zf (zaa (zd (za ?_)))
 refine s_mv ?_
 refine zO (zaJ C7 B8 hn_g5) ?_
 refine s_as ?_
 refine zf ?_
 exact s_rn (fu,v14,(g5+1)) ⟨by first | omega | (dsimp only;omega),F11,by first | omega | (dsimp only;omega)⟩ [(5020,12051)]
 refine zi (zd (za ?_))
 refine s_mv ?_
 refine s_fa zH ?_
 refine zu yA25 ?_
 refine s_mv ?_
 obtain ⟨v15,V15,F10⟩:=zc F9
 refine zN Form.row V15 (Form.row_eq _) yE25 ?_
 refine zas yA27 yS27 ?_
 refine s_mv ?_
 refine s_mv ?_
 obtain ⟨v16,V16,F11⟩:=zc F10
 refine zU [(9300,5020),(9200,12051)] [] _ _ (ih_m_spec_l4Depths fu (by omega) _ _ _ _ _ V16) ?_
 refine s_as ?_
 refine zf (zaa (zd (za ?_)))
 refine s_mv ?_
 refine zO (zaJ C7 B8 hn_g5) ?_
 refine s_as ?_
 refine zf ?_
 exact s_rn (fu,v16,(g5+1)) ⟨by first | omega | (dsimp only;omega),F11,by first | omega | (dsimp only;omega)⟩ [(5020,12051)]
 iterate 7 refine r_no rfl ?_
 refine zB ?_
 refine zf (zd (zaS rfl (zi (zd (za ?_)))))
 refine s_mv ?_
 refine s_fa zH ?_
 refine zu yA25 ?_
 refine s_mv ?_
 obtain ⟨v17,V17,F7⟩:=zc F6
 refine zN Form.row V17 (Form.row_eq _) yE25 ?_
 refine zas yA27 yS27 ?_
 refine s_mv ?_
 refine s_mv ?_
 obtain ⟨v18,V18,F8⟩:=zc F7
 refine zU [(9300,5020),(9200,12051)] [] _ _ (ih_m_spec_l4Depths fu (by omega) _ _ _ _ _ V18) ?_
 refine s_as ?_
 refine zf (zaa (zd (za ?_)))
 refine s_mv ?_
 refine zO (zaJ C7 B8 hn_g5) ?_
 refine s_as ?_
 refine zf ?_
 exact s_rn (fu,v18,(g5+1)) ⟨by first | omega | (dsimp only;omega),F8,by first | omega | (dsimp only;omega)⟩ [(5020,12051)]
 refine zA (zq (zp (zr (zd (zb (za ?_))))))
 refine s_mv ?_
 refine s_as ?_
 refine zf (zd ?_)
 refine zdl 8 5020 9200 (by conv=>lhs;whnf) (by conv=>lhs;whnf) rfl ?_
 refine zh (zn ?_)
 cases F5
 exact zl _ [] Tryz.results70
 refine zi (zd (zb (zb (za ?_))))
 refine s_as ?_
 refine zf (zd (zk ?_))
 refine zdl 0 9300 5040 (by conv=>lhs;whnf) (by conv=>lhs;whnf) rfl ?_
 refine zap [0,9,10,18,19,20,21,22,23,24,25,26,27,28,29,30,31,32,33,34,35,36,37,38,39,40,41,42,43,44,45,46,47,48,49,50,51] [5040] [12051] [5040] (fun a:Nat × (List Int) × Int=>a.1) (fun a:Nat × (List Int) × Int=>[(0,.ar 5040),(9,.t (.sc (.int .i64 a.2.2)))]) (fun a:Nat × (List Int) × Int=>[(5040,.arr (a.2.1.map rI) 3 true)]) (fun a:Nat × (List Int) × Int=>a.1≤fu∧zag a.1 x2 x3 x4 a.2.1 a.2.2=some r∧0≤a.2.2) (fu,x1,0) ⟨Nat.le_refl _,F2,by simp⟩ (by rfl) (by rfl) (fun _=>rfl) (zG (by conv=>lhs;whnf) (by rfl) (zG (by conv=>lhs;whnf) (by rfl) za7)) (zT (by conv=>lhs;whnf) (by rfl) zaW) (zb7 hC rfl) (by repeat (first | exact zai rfl | refine zat rfl ?_ | refine zX rfl ?_)) (by repeat (first | exact zaL | exact zam rfl | refine zau rfl ?_ | refine zY rfl ?_)) ?_
 clear F2
 rintro ⟨fu,g19,g20⟩ ⟨hl21,F3,hn_g20⟩
 dsimp only at hl21 F3 hn_g20 ⊢
 obtain _ | fu:=fu
 · rw [zag] at F3;cases F3
 rw [zag] at F3
 refine zb (zb (za ?_))
 refine s_mv ?_
 refine s_fa zH ?_
 refine zu yA25 ?_
 refine zF yU25 ?_
 refine s_lt ?_
 refine zf (zd ?_)
 refine zm F3 ?_ ?_<;>intro C22 F4
 refine zW 20 (fun B23=>?_)
 refine zi (zd (zb (zk (zb (za ?_)))))
 refine s_mv ?_
 refine s_as ?_
 refine zf (zd (zb (zb (za ?_))))
 refine s_mv ?_
 refine zO (zaJ C22 B23 hn_g20) ?_
 refine s_fa zH ?_
 refine zu yA25 ?_
 refine zF yU25 ?_
 refine s_lt ?_
 refine s_mv ?_
 refine zo _ 32 F4 ?_ ?_<;>intro C24 F5
 refine s_fa zH ?_
 refine zu yA25 ?_
 refine s_mv ?_
 refine zO (zaJ C22 B23 hn_g20) ?_
 obtain ⟨v25,V25,F6⟩:=zc F5
 refine zN Form.row V25 (Form.row_eq _) yE25 ?_
 refine zas yA27 yS27 ?_
 obtain ⟨v26,V26,F7⟩:=zc F6
 refine zx [] (zaO fu _ _ V26) ?_
 refine zz ?_
 refine zf (zd ?_)
 refine zm F7 ?_ ?_<;>intro C27 F8
 refine za ?_
 refine s_mv ?_
 refine zO rfl ?_
 refine s_as ?_
 refine zf (zd (za ?_))
 refine s_mv ?_
 refine s_fa zH ?_
 refine zu yA25 ?_
 refine s_mv ?_
 obtain ⟨v28,V28,F9⟩:=zc F8
 refine zN Form.row V28 (Form.row_eq _) yE25 ?_
 refine zas yA27 yS27 ?_
 refine s_mv ?_
 refine s_mv ?_
 obtain ⟨v29,V29,F10⟩:=zc F9
 refine zU [(9300,5040),(9200,12051)] [] _ _ (ih_m_spec_l4Depths fu (by omega) _ _ _ _ _ V29) ?_
 refine s_as ?_
 refine zf (zaa (zd (za ?_)))
 refine s_mv ?_
 refine zO (zaJ C22 B23 hn_g20) ?_
 refine s_as ?_
 refine zf ?_
 exact s_rn (fu,v29,(g20+1)) ⟨by first | omega | (dsimp only;omega),F10,by first | omega | (dsimp only;omega)⟩ [(5040,12051)]
 refine zi (zd (za ?_))
 refine s_mv ?_
 refine s_fa zH ?_
 refine zu yA25 ?_
 refine s_mv ?_
 obtain ⟨v30,V30,F9⟩:=zc F8
 refine zN Form.row V30 (Form.row_eq _) yE25 ?_
 refine zas yA27 yS27 ?_
 refine s_mv ?_
 refine s_mv ?_
 obtain ⟨v31,V31,F10⟩:=zc F9
 refine zU [(9300,5040),(9200,12051)] [] _ _ (ih_m_spec_l4Depths fu (by omega) _ _ _ _ _ V31) ?_
 refine s_as ?_
 refine zf (zaa (zd (za ?_)))
 refine s_mv ?_
 refine zO (zaJ C22 B23 hn_g20) ?_
 refine s_as ?_
 refine zf ?_
 exact s_rn (fu,v31,(g20+1)) ⟨by first | omega | (dsimp only;omega),F10,by first | omega | (dsimp only;omega)⟩ [(5040,12051)]
 iterate 7 refine r_no rfl ?_
 refine zB ?_
 refine zf (zd (zaS rfl (zi (zd (za ?_)))))
 refine s_mv ?_
 refine s_fa zH ?_
 refine zu yA25 ?_
 refine s_mv ?_
 obtain ⟨v32,V32,F6⟩:=zc F5
 refine zN Form.row V32 (Form.row_eq _) yE25 ?_
 refine zas yA27 yS27 ?_
 refine s_mv ?_
 refine s_mv ?_
 obtain ⟨v33,V33,F7⟩:=zc F6
 refine zU [(9300,5040),(9200,12051)] [] _ _ (ih_m_spec_l4Depths fu (by omega) _ _ _ _ _ V33) ?_
 refine s_as ?_
 refine zf (zaa (zd (za ?_)))
 refine s_mv ?_
 refine zO (zaJ C22 B23 hn_g20) ?_
 refine s_as ?_
 refine zf ?_
 exact s_rn (fu,v33,(g20+1)) ⟨by first | omega | (dsimp only;omega),F7,by first | omega | (dsimp only;omega)⟩ [(5040,12051)]
 refine zA (zq (zp (zr (zd (zb (za ?_))))))
 refine s_mv ?_
 refine s_as ?_
 refine zf (zd ?_)
 refine zdl 8 5040 9200 (by conv=>lhs;whnf) (by conv=>lhs;whnf) rfl ?_
 refine zh (zn ?_)
 cases F4
 exact zl _ [] Tryz.results70
theorem m_spec_l4Depths_all (fuel:Nat):zeK fuel:=by
 induction fuel using Nat.strongRecOn with
 | _ N ih =>
   cases N with
   | zero=>exact (by intro x1 x2 x3 x4 r h;rw [zaY] at h;cases h)
   | succ fu=>exact m_spec_l4Depths_st fu (fun k hk=>(ih k (by omega)))
theorem zf0 (fuel:Nat):zeK fuel:=(m_spec_l4Depths_all fuel)
def m_spec_l4Is_AC (fuel:Nat):Prop:=∀ (x1:Form) (x2:(List Form)) (r:Bool),zgm fuel x1 x2=some r→AC Tryz.prog 23 [.ag [.t (.sc (.int .i64 x1.kind)),.t (.sc (.str x1.name)),.t (.sc (.int .i64 x1.n)),.t (.sl (x1.scopes.map rI)),.t (.sl (x1.kids.map Form.row))],.t (.sl (x2.map Form.row))] noOb (.t (.sc (.bool r))) noOb
theorem m_spec_l4Is_ok (fuel:Nat):m_spec_l4Is_AC fuel:=by
 intro x1 x2 r F0
 unfold zgm at F0
 refine AC_i [.t (.sc (.bool r))] Tryz.func23 rfl Tryz.ntmps23 ?_
 intro C hC
 refine zb (za ?_)
 refine za9 ?_
 refine s_as ?_
 refine zf (zd (zb (zb (za ?_))))
 refine zJ yA27 yS27 ?_
 obtain ⟨v1,V1,F1⟩:=zc F0
 refine zx [] (zaQ fuel _ _ V1) ?_
 refine zbq ?_
 refine s_mv ?_
 refine zo _ 12 F1 ?_ ?_<;>intro C2 F2
 iterate 3 refine r_no rfl ?_
 refine zz ?_
 refine s_mv ?_
 iterate 3 refine r_no rfl ?_
 refine zz ?_
 refine zf (zd (zM rfl (zb (za ?_))))
 refine s_as ?_
 refine zf (zd (zh (zg (zn ?_))))
 cases F2
 exact zl [] [] Tryz.results23
 refine s_mv ?_
 obtain ⟨v3,V3,F3⟩:=zc F2
 refine zx [] (zgK fuel _ _ V3) ?_
 refine zbq ?_
 refine zB ?_
 refine s_mv ?_
 refine zo _ 17 F3 ?_ ?_<;>intro C4 F4
 iterate 3 refine r_no rfl ?_
 refine zz ?_
 refine zf (zd (zM rfl (zb (za ?_))))
 refine s_as ?_
 refine zf (zd (zh (zg (zn ?_))))
 cases F4
 exact zl [] [] Tryz.results23
 refine zJ yA27 yS27 ?_
 obtain ⟨v5,V5,F5⟩:=zc F4
 refine zx [] (m_spec_l4Shape_ok fuel _ _ V5) ?_
 refine zbq ?_
 refine zB ?_
 refine zf (zd ?_)
 refine zm F5 ?_ ?_<;>intro C6 F6
 refine zb (za ?_)
 refine s_as ?_
 refine zf (zd (zh (zg (zn ?_))))
 cases F6
 exact zl [] [] Tryz.results23
 refine zi (zd (zb (za ?_)))
 refine s_bs Form.row ([]:List Form) yP25 yR27 ?_
 refine zJ yA27 yS27 ?_
 refine s_mv ?_
 obtain ⟨v7,V7,F7⟩:=zc F6
 refine zU [(9300,22),(9200,12025)] [] _ _ (zgD fuel _ _ _ _ V7) ?_
 refine s_as ?_
 refine zf (zd (zb (zb (za ?_))))
 refine s_as ?_
 refine zf (zd (zk ?_))
 refine awp_frz 12025 (by conv=>lhs;whnf) ?_
 refine zbk (β:=Int × (List Form)) [4,6,26,27,28,29,30,31,32,33,34,35,36,37,38,39] [12025] [] (fun a=>[(6,.t (.sc (.int .i64 a.2.1)))]) (fun a=>[(12025,.arr (a.2.2.map Form.row) 27 false)]) (fun a=>a.1≤fuel∧zde a.1 x1 x2 a.2.1 a.2.2=some r∧0≤a.2.1) (fuel,0,v7) ⟨Nat.le_refl _,F7,by simp⟩ ?_
 clear F7
 rintro ⟨fu,g8,g9⟩ ⟨hl10,F8,hn_g8⟩
 dsimp only at hl10 F8 hn_g8 ⊢
 obtain _ | fu:=fu
 · rw [zde] at F8;cases F8
 rw [zde] at F8
 refine zb (zb (za ?_))
 refine s_mv ?_
 refine s_mv ?_
 refine zhs yU25 ?_
 refine s_lt ?_
 refine zf (zd ?_)
 refine zm F8 ?_ ?_<;>intro C11 F9
 refine zhU 5 12025 (fun B12=>?_)
 refine zi (zd (zb (zk (zb ?_))))
 refine z7 yMix (by kernel_rfl) ?_
 refine zhr ?_
 refine s_mv ?_
 obtain ⟨v13,V13,F10⟩:=zc F9
 refine s_sl01 Form.row (fun y=>Form.row_len y) V13 yU25 yE25 ?_
 refine zhr ?_
 refine s_mv ?_
 obtain ⟨v14,V14,F11⟩:=zc F10
 refine s_ixA Form.row V14 yE25 ?_
 refine s_lAN Form.row V14 (Form.row_eq _) yA27 yS27 ?_
 obtain ⟨v15,V15,F12⟩:=zc F11
 refine zx [] (zgs fu _ _ _ V15) ?_
 refine zar (by kernel_rfl) ?_
 refine zd ?_
 refine zm F12 ?_ ?_<;>intro C16 F13
 refine zb (za ?_)
 refine s_as ?_
 refine zf (zd (zh (zj (zg (zy (zj (zg (zn ?_))))))))
 cases F13
 exact zl [] [] Tryz.results23
 refine zi (zaa (zd (za ?_)))
 refine s_mv ?_
 refine zO (zaJ C11 B12 hn_g8) ?_
 refine s_as ?_
 refine zf ?_
 exact s_rn (fu,(g8+1),g9) ⟨by first | omega | (dsimp only;omega),F13,by first | omega | (dsimp only;omega)⟩
 refine zA (zq (zp (zr (zd (zb (za ?_))))))
 refine s_bs rI ([]:List Int) yP24 yR3 ?_
 refine zJ yA27 yS27 ?_
 refine s_mv ?_
 obtain ⟨v17,V17,F10⟩:=zc F9
 refine zU [(9300,40),(9200,12043)] [] _ _ (zf0 fu _ _ _ _ _ V17) ?_
 refine s_as ?_
 refine zf (zd (zb (zb (za ?_))))
 refine s_as ?_
 refine zf (zd (zk ?_))
 refine zbk (β:=Int) [4,8,44,45,46,47,48,49,50,51,52,53,54] [] [] (fun a=>[(8,.t (.sc (.int .i64 a.2)))]) (fun a=>[]) (fun a=>a.1≤fu∧zdd a.1 g9 v17 a.2=some r∧0≤a.2) (fu,0) ⟨Nat.le_refl _,F10,by simp⟩ ?_
 clear F10
 rintro ⟨fu,g18⟩ ⟨hl19,F11,hn_g18⟩
 dsimp only at hl19 F11 hn_g18 ⊢
 obtain _ | fu:=fu
 · rw [zdd] at F11;cases F11
 rw [zdd] at F11
 refine zb (zb (za ?_))
 refine s_mv ?_
 refine s_mv ?_
 refine zhs yU24 ?_
 refine s_lt ?_
 refine zf (zd ?_)
 refine zm F11 ?_ ?_<;>intro C20 F12
 refine zhU 7 12043 (fun B21=>?_)
 refine zi (zd (zb (zk (zb (za ?_)))))
 refine s_mv ?_
 refine s_mv ?_
 obtain ⟨v22,V22,F13⟩:=zc F12
 refine s_ixA rI V22 yE24 ?_
 refine s_lA1 rI V22 rfl yA3 ?_
 refine s_gt ?_
 refine zf (zd ?_)
 refine zm F13 ?_ ?_<;>intro C23 F14
 refine zb (za ?_)
 refine s_as ?_
 refine zf (zd (zh (zj (zg (zy (zj (zg (zn ?_))))))))
 cases F14
 exact zl [] [] Tryz.results23
 refine zi (zaa (zd (za ?_)))
 refine s_mv ?_
 refine zO (zaJ C20 B21 hn_g18) ?_
 refine s_as ?_
 refine zf ?_
 exact s_rn (fu,(g18+1)) ⟨by first | omega | (dsimp only;omega),F14,by first | omega | (dsimp only;omega)⟩
 refine zA (zq (zp (zr (zd (zb (za ?_))))))
 refine s_mv ?_
 refine zhs yU25 ?_
 refine s_le ?_
 refine s_as ?_
 refine zf (zd (zh (zn ?_)))
 cases F12
 exact zl [] [] Tryz.results23
end Go.Abs
