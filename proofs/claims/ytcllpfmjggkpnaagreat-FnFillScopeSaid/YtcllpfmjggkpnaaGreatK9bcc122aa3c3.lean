/- A part of the proof: what the functions that the law calls answer, as pure values. -/
import Derived.Test.YtcllpfmjggkpnaaGreatKcd1b73107f87
import Derived.Test.YtcllpfmjggkpnaaGreatK91fcc0fd7672
import Derived.Test.YtcllpfmjggkpnaaGreatKf8320a019dd3
import Derived.Test.YtcllpfmjggkpnaaGreatK51caa9494268
import Derived.Test.YtcllpfmjggkpnaaGreatK1df75f79e59f
import Derived.Test.YtcllpfmjggkpnaaGreatK9007fc86218d
import Derived.Test.YtcllpfmjggkpnaaGreatKfa16095425eb
set_option linter.unusedSimpArgs false
set_option linter.unusedVariables false
set_option maxRecDepth 100000
set_option maxHeartbeats 4000000
namespace Go.Abs
open Go.Proofs
def zfZ (fuel:Nat):Prop:=∀ (x1:Hit) (x2:Int) (r:Bool),zeV fuel x1 x2=some r→AC Tryz.prog 130 [.ag [.t (.sc (.int .i64 x1.name.kind)),.t (.sc (.str x1.name.name)),.t (.sc (.int .i64 x1.name.n)),.t (.sl (x1.name.scopes.map rI)),.t (.sl (x1.name.kids.map Form.row)),.t (.sc (.int .i64 x1.depth)),.t (.sc (.int .i64 x1.one.kind)),.t (.sc (.str x1.one.name)),.t (.sc (.int .i64 x1.one.n)),.t (.sl (x1.one.scopes.map rI)),.t (.sl (x1.one.kids.map Form.row)),.t (.sl (x1.many.map Hit.row))],.t (.sc (.int .i64 x2))] noOb (.t (.sc (.bool r))) noOb
theorem m_spec_l4Hit_st (fu:Nat) (ih_m_spec_l4Hit:∀ k,k≤fu→zfZ k):zfZ (fu+1):=by
 intro x1 x2 r F0
 rw [zeV] at F0
 refine AC_i [.t (.sc (.bool r))] Tryz.func130 rfl Tryz.ntmps130 ?_
 intro C hC
 refine zb (za ?_)
 refine za9 ?_
 refine s_as ?_
 refine zf (zd (zb (zb (za ?_))))
 refine s_fa zgc ?_
 refine zu yA3 ?_
 refine s_mv ?_
 refine s_ne ?_
 refine s_mv ?_
 refine zo _ 10 F0 ?_ ?_<;>intro C1 F1
 refine r_no rfl (r_no rfl ?_)
 refine zz ?_
 refine s_mv ?_
 refine r_no rfl (r_no rfl ?_)
 refine zz ?_
 refine s_mv ?_
 iterate 4 refine r_no rfl ?_
 refine zz ?_
 refine s_mv ?_
 iterate 4 refine r_no rfl ?_
 refine zz ?_
 refine s_mv ?_
 iterate 4 refine r_no rfl ?_
 refine zz ?_
 refine zf (zd (zM rfl (zb (za ?_))))
 refine s_as ?_
 refine zf (zd (zh (zg (zn ?_))))
 cases F1
 exact zl [] [] Tryz.results130
 refine s_mv ?_
 refine s_lt ?_
 refine zB ?_
 refine s_mv ?_
 refine zo _ 14 F1 ?_ ?_<;>intro C2 F2
 refine r_no rfl (r_no rfl ?_)
 refine zz ?_
 refine s_mv ?_
 iterate 4 refine r_no rfl ?_
 refine zz ?_
 refine s_mv ?_
 iterate 4 refine r_no rfl ?_
 refine zz ?_
 refine s_mv ?_
 iterate 4 refine r_no rfl ?_
 refine zz ?_
 refine zf (zd (zM rfl (zb (za ?_))))
 refine s_as ?_
 refine zf (zd (zh (zg (zn ?_))))
 cases F2
 exact zl [] [] Tryz.results130
 refine s_mv ?_
 refine s_gt ?_
 refine zB ?_
 refine s_mv ?_
 refine zo _ 18 F2 ?_ ?_<;>intro C3 F3
 iterate 4 refine r_no rfl ?_
 refine zz ?_
 refine s_mv ?_
 iterate 4 refine r_no rfl ?_
 refine zz ?_
 refine s_mv ?_
 iterate 4 refine r_no rfl ?_
 refine zz ?_
 refine zf (zd (zM rfl (zb (za ?_))))
 refine s_as ?_
 refine zf (zd (zh (zg (zn ?_))))
 cases F3
 exact zl [] [] Tryz.results130
 refine s_fa zfi ?_
 refine zas yA27 yS27 ?_
 obtain ⟨v4,V4,F4⟩:=zc F3
 refine zx [] (m_spec_l3Is_ok fu _ _ V4) ?_
 refine zbq ?_
 refine zB ?_
 refine s_mv ?_
 refine zo _ 24 F4 ?_ ?_<;>intro C5 F5
 iterate 4 refine r_no rfl ?_
 refine zz ?_
 refine s_mv ?_
 iterate 4 refine r_no rfl ?_
 refine zz ?_
 refine zf (zd (zM rfl (zb (za ?_))))
 refine s_as ?_
 refine zf (zd (zh (zg (zn ?_))))
 cases F5
 exact zl [] [] Tryz.results130
 refine s_fa zfi ?_
 refine s_fa zdp ?_
 refine zu yA9 ?_
 refine zht ?_
 refine zB ?_
 refine s_mv ?_
 refine zo _ 30 F5 ?_ ?_<;>intro C6 F6
 iterate 4 refine r_no rfl ?_
 refine zz ?_
 refine zf (zd (zM rfl (zb (za ?_))))
 refine s_as ?_
 refine zf (zd (zh (zg (zn ?_))))
 cases F6
 exact zl [] [] Tryz.results130
 refine s_fa zfi ?_
 refine s_fa zdp ?_
 refine zu yA9 ?_
 refine zht ?_
 refine zB ?_
 refine zf (zd ?_)
 refine zm F6 ?_ ?_<;>intro C7 F7
 refine zb (za ?_)
 refine s_as ?_
 refine zf (zd (zh (zg (zn ?_))))
 cases F7
 exact zl [] [] Tryz.results130
 refine zi (zd (zb (zb (za ?_))))
 refine s_mv ?_
 refine s_eq ?_
 refine zf (zd ?_)
 refine zm F7 ?_ ?_<;>intro C8 F8
 refine zb (za ?_)
 refine s_fa yF38_2 ?_
 refine zas yA27 yS27 ?_
 obtain ⟨v9,V9,F9⟩:=zc F8
 refine zx [] (zaQ fu _ _ V9) ?_
 refine s_mv ?_
 refine zo _ 41 F9 ?_ ?_<;>intro C10 F10
 refine s_fa zfP ?_
 refine zu yA30 ?_
 refine zF yU30 ?_
 refine s_eq ?_
 refine zz ?_
 refine s_as ?_
 refine zf (zd (zh (zg (zn ?_))))
 cases F10
 exact zl [] [] Tryz.results130
 iterate 4 refine r_no rfl ?_
 refine zB ?_
 refine s_as ?_
 refine zf (zd (zh (zg (zn ?_))))
 cases F10
 exact zl [] [] Tryz.results130
 refine zi (zd (zb (zb (za ?_))))
 refine s_as ?_
 refine zf (zd (zk ?_))
 refine zbk (β:=Int) [4,5,47,48,49,50,51,52,53,54,55,56,57,58,59,60,61,62,63,64,65,66,67,68,69,70,71,72,73,74] [] [] (fun a=>[(5,.t (.sc (.int .i64 a.2)))]) (fun a=>[]) (fun a=>a.1≤fu∧zcP a.1 x1 x2 a.2=some r∧0≤a.2) (fu,0) ⟨Nat.le_refl _,F8,by simp⟩ ?_
 clear F8
 rintro ⟨fu,g11⟩ ⟨hl12,F9,hn_g11⟩
 dsimp only at hl12 F9 hn_g11 ⊢
 obtain _ | fu:=fu
 · rw [zcP] at F9;cases F9
 rw [zcP] at F9
 refine zb (zb (za ?_))
 refine s_mv ?_
 refine s_fa zfP ?_
 refine zu yA30 ?_
 refine zF yU30 ?_
 refine s_lt ?_
 refine zf (zd ?_)
 refine zm F9 ?_ ?_<;>intro C13 F10
 refine zW 49 (fun B14=>?_)
 refine zi (zd (zb (zk (zb ?_))))
 refine z7 yMix (by kernel_rfl) ?_
 refine s_fa zfP ?_
 refine zu yA30 ?_
 refine s_mv ?_
 obtain ⟨v15,V15,F11⟩:=zc F10
 refine zN Hit.row V15 (Hit.row_eq _) yE30 ?_
 refine s_fa zfi ?_
 refine zas yA27 yS27 ?_
 refine s_fa zfi ?_
 refine zas yA27 yS27 ?_
 obtain ⟨v16,V16,F12⟩:=zc F11
 refine zx [] (zcb fu _ _ _ V16) ?_
 refine zbq ?_
 refine s_mv ?_
 refine zo _ 64 F12 ?_ ?_<;>intro C17 F13
 iterate 9 refine r_no rfl ?_
 refine zz ?_
 refine zar (by kernel_rfl) ?_
 refine zd (zM rfl (zb (za ?_)))
 refine s_as ?_
 refine zf (zd (zh (zj (zg (zy (zj (zg (zn ?_))))))))
 cases F13
 exact zl [] [] Tryz.results130
 refine s_fa zfP ?_
 refine zu yA30 ?_
 refine s_mv ?_
 obtain ⟨v18,V18,F14⟩:=zc F13
 refine zN Hit.row V18 (Hit.row_eq _) yE30 ?_
 refine zas yA38 yS38 ?_
 refine s_mv ?_
 refine zhq rfl ?_
 obtain ⟨v19,V19,F15⟩:=zc F14
 refine zx [] (ih_m_spec_l4Hit fu (by omega) _ _ _ V19) ?_
 refine zbq ?_
 refine zB ?_
 refine zar (by kernel_rfl) ?_
 refine zd ?_
 refine zm F15 ?_ ?_<;>intro C20 F16
 refine zb (za ?_)
 refine s_as ?_
 refine zf (zd (zh (zj (zg (zy (zj (zg (zn ?_))))))))
 cases F16
 exact zl [] [] Tryz.results130
 refine zi (zaa (zd (za ?_)))
 refine s_mv ?_
 refine zO (zaJ C13 B14 hn_g11) ?_
 refine s_as ?_
 refine zf ?_
 exact s_rn (fu,(g11+1)) ⟨by first | omega | (dsimp only;omega),F16,by first | omega | (dsimp only;omega)⟩
 refine zA (zq (zp (zr (zd (zb (za ?_))))))
 refine s_fa yF38_2 ?_
 refine zas yA27 yS27 ?_
 refine zeJ yZ27 yL27 ?_
 obtain ⟨v21,V21,F11⟩:=zc F10
 refine zx [] (zcb fu _ _ _ V21) ?_
 refine s_mv ?_
 refine zo _ 79 F11 ?_ ?_<;>intro C22 F12
 refine s_fa zfP ?_
 refine zu yA30 ?_
 refine zF yU30 ?_
 refine s_le ?_
 refine zz ?_
 refine s_as ?_
 refine zf (zd (zh (zn ?_)))
 cases F12
 exact zl [] [] Tryz.results130
 iterate 4 refine r_no rfl ?_
 refine zB ?_
 refine s_as ?_
 refine zf (zd (zh (zn ?_)))
 cases F12
 exact zl [] [] Tryz.results130
theorem m_spec_l4Hit_all (fuel:Nat):zfZ fuel:=by
 induction fuel using Nat.strongRecOn with
 | _ N ih =>
   cases N with
   | zero=>exact (by intro x1 x2 r h;rw [zeV] at h;cases h)
   | succ fu=>exact m_spec_l4Hit_st fu (fun k hk=>(ih k (by omega)))
theorem m_spec_l4Hit_ok (fuel:Nat):zfZ fuel:=(m_spec_l4Hit_all fuel)
def m_spec_HitsValid_AC (fuel:Nat):Prop:=∀ (x1:(List Hit)) (r:Bool),zev fuel x1=some r→AC Tryz.prog 98 [.t (.sl (x1.map Hit.row))] noOb (.t (.sc (.bool r))) noOb
theorem m_spec_HitsValid_ok (fuel:Nat):m_spec_HitsValid_AC fuel:=by
 intro x1 r F0
 unfold zev at F0
 refine AC_i [.t (.sc (.bool r))] Tryz.func98 rfl Tryz.ntmps98 ?_
 intro C hC
 refine zb (za ?_)
 refine s_as ?_
 refine zf (zd (zb (zb (za ?_))))
 refine s_as ?_
 refine zf (zd (zk ?_))
 refine zbk (β:=Int) [2,3,4,5,6,7,8,9,10,11,12,13,14,15,16,17,18,19,20,21,22,23,24,25,26,27,28,29,30,31,32,33,34,35,36,37,38,39,40,41] [] [] (fun a=>[(2,.t (.sc (.bool false))),(3,.t (.sc (.int .i64 a.2)))]) (fun a=>[]) (fun a=>a.1≤fuel∧zbw a.1 x1 a.2=some r) (fuel,0) ⟨Nat.le_refl _,F0⟩ ?_
 clear F0
 rintro ⟨fu,g1⟩ ⟨hl2,F1⟩
 dsimp only at hl2 F1 ⊢
 obtain _ | fu:=fu
 · rw [zbw] at F1;cases F1
 rw [zbw] at F1
 refine zb (zb (za ?_))
 refine s_mv ?_
 refine s_mv ?_
 refine zF yU30 ?_
 refine s_lt ?_
 refine s_mv ?_
 refine zo _ 9 F1 ?_ ?_<;>intro C3 F2
 refine s_mv ?_
 refine s_le ?_
 refine zz ?_
 refine zf (zd ?_)
 refine zm F2 ?_ ?_<;>intro C4 F3
 refine zi (zd (zb (zk (zb (zb ?_)))))
 refine z7 yMix (by kernel_rfl) ?_
 refine s_mv ?_
 refine s_mv ?_
 obtain ⟨v5,V5,F4⟩:=zc F3
 refine zN Hit.row V5 (Hit.row_eq _) yE30 ?_
 refine zas yA38 yS38 ?_
 refine s_mv ?_
 refine s_mv ?_
 obtain ⟨v6,V6,F5⟩:=zc F4
 refine zN Hit.row V6 (Hit.row_eq _) yE30 ?_
 refine s_fa zgc ?_
 refine zu yA3 ?_
 obtain ⟨v7,V7,F6⟩:=zc F5
 refine zx [] (m_spec_l4Hit_ok fu _ _ _ V7) ?_
 refine zbq ?_
 refine zar (by kernel_rfl) ?_
 refine zd ?_
 refine zm F6 ?_ ?_<;>intro C8 F7
 refine zb (za ?_)
 refine s_as ?_
 refine zf (zd (zh (zg (zj (zg (zy (zj (zg (zn ?_)))))))))
 cases F7
 exact zl [] [] Tryz.results98
 refine zi (zd (zb (za ?_)))
 refine s_as ?_
 refine zf (zd (zk ?_))
 refine zbk (β:=Int) [2,4,26,27,28,29,30,31,32,33,34,35,36,37,38,39,40,41] [] [] (fun a=>[(2,.t (.sc (.bool false))),(4,.t (.sc (.int .i64 a.2)))]) (fun a=>[]) (fun a=>a.1≤fu∧zbv a.1 x1 g1 a.2=some r) (fu,0) ⟨Nat.le_refl _,F7⟩ ?_
 clear F7
 rintro ⟨fu,g9⟩ ⟨hl10,F8⟩
 dsimp only at hl10 F8 ⊢
 obtain _ | fu:=fu
 · rw [zbv] at F8;cases F8
 rw [zbv] at F8
 refine zb (zb (za ?_))
 refine s_mv ?_
 refine s_mv ?_
 refine s_lt ?_
 refine zf (zd ?_)
 refine zm F8 ?_ ?_<;>intro C11 F9
 refine zi (zd (zb (zk (zb ?_))))
 refine z7 yMix (by kernel_rfl) ?_
 refine s_mv ?_
 refine s_mv ?_
 obtain ⟨v12,V12,F10⟩:=zc F9
 refine zN Hit.row V12 (Hit.row_eq _) yE30 ?_
 refine s_fa zfi ?_
 refine zas yA27 yS27 ?_
 refine s_mv ?_
 refine s_mv ?_
 obtain ⟨v13,V13,F11⟩:=zc F10
 refine zN Hit.row V13 (Hit.row_eq _) yE30 ?_
 refine s_fa zfi ?_
 refine zas yA27 yS27 ?_
 obtain ⟨v14,V14,F12⟩:=zc F11
 refine zx [] (zcb fu _ _ _ V14) ?_
 refine zar (by kernel_rfl) ?_
 refine zd ?_
 refine zm F12 ?_ ?_<;>intro C15 F13
 refine zb (za ?_)
 refine s_as ?_
 refine zf (zd (zh (zj (zg (zy (zj (zj (zg (zy (zj (zg (zn ?_))))))))))))
 cases F13
 exact zl [] [] Tryz.results98
 refine zi (zaa (zd (za ?_)))
 refine s_mv ?_
 refine zO rfl ?_
 refine s_as ?_
 refine zf ?_
 exact s_rn (fu,(w64 (g9+1))) ⟨by first | omega | (dsimp only;omega),F13⟩
 refine zA (zq (zp (zr (zaa (zd (za ?_))))))
 refine s_mv ?_
 refine zO rfl ?_
 refine s_as ?_
 refine zf ?_
 exact s_rn (fu,(w64 (g1+1))) ⟨by first | omega | (dsimp only;omega),F9⟩
 refine zA (zq (zp (zr (zd (zb (za ?_))))))
 refine s_mv ?_
 refine zF yU30 ?_
 refine s_le ?_
 refine s_as ?_
 refine zf (zd (zh (zn ?_)))
 cases F3
 exact zl [] [] Tryz.results98
 refine r_no rfl (r_no rfl ?_)
 refine zB ?_
 refine zf (zd (zaS rfl (zA (zq (zp (zr (zd (zb (za ?_)))))))))
 refine s_mv ?_
 refine zF yU30 ?_
 refine s_le ?_
 refine s_as ?_
 refine zf (zd (zh (zn ?_)))
 cases F2
 exact zl [] [] Tryz.results98
def zhO (fuel:Nat):Prop:=∀ (x1:Form) (x2:(List Hit)) (r:Bool),zc6 fuel x1 x2=some r→AC Tryz.prog 41 [.ag [.t (.sc (.int .i64 x1.kind)),.t (.sc (.str x1.name)),.t (.sc (.int .i64 x1.n)),.t (.sl (x1.scopes.map rI)),.t (.sl (x1.kids.map Form.row))],.t (.sl (x2.map Hit.row))] noOb (.t (.sc (.bool r))) noOb
theorem zhN (fuel:Nat):zhO fuel:=by
 intro x1 x2 r F0
 unfold zc6 at F0
 refine AC_i [.t (.sc (.bool r))] Tryz.func41 rfl Tryz.ntmps41 ?_
 intro C hC
 refine zb (za ?_)
 refine za9 ?_
 refine s_as ?_
 refine zf (zd (zb (za ?_)))
 refine zJ yA27 yS27 ?_
 obtain ⟨v1,V1,F1⟩:=zc F0
 refine zx [] (zaQ fuel _ _ V1) ?_
 refine s_mv ?_
 refine zo _ 7 F1 ?_ ?_<;>intro C2 F2
 refine s_mv ?_
 obtain ⟨v3,V3,F3⟩:=zc F2
 refine zx [] (m_spec_HitsValid_ok fuel _ _ V3) ?_
 refine zz ?_
 refine s_mv ?_
 refine zo _ 11 F3 ?_ ?_<;>intro C4 F4
 refine zJ yA27 yS27 ?_
 refine s_mv ?_
 obtain ⟨v5,V5,F5⟩:=zc F4
 refine zx [] (m_spec_l5Is_ok fuel _ _ _ V5) ?_
 refine zz ?_
 refine s_as ?_
 refine zf (zd (zh (zn ?_)))
 cases F5
 exact zl [] [] Tryz.results41
 iterate 3 refine r_no rfl ?_
 refine zB ?_
 refine s_as ?_
 refine zf (zd (zh (zn ?_)))
 cases F4
 exact zl [] [] Tryz.results41
 refine r_no rfl (r_no rfl ?_)
 refine zB ?_
 refine s_mv ?_
 iterate 3 refine r_no rfl ?_
 refine zB ?_
 refine s_as ?_
 refine zf (zd (zh (zn ?_)))
 cases F2
 exact zl [] [] Tryz.results41
def zfu (fuel:Nat):Prop:=∀ (x1:Form) (x2:Form) (r:Bool),zdG fuel x1 x2=some r→AC Tryz.prog 134 [.ag [.t (.sc (.int .i64 x1.kind)),.t (.sc (.str x1.name)),.t (.sc (.int .i64 x1.n)),.t (.sl (x1.scopes.map rI)),.t (.sl (x1.kids.map Form.row))],.ag [.t (.sc (.int .i64 x2.kind)),.t (.sc (.str x2.name)),.t (.sc (.int .i64 x2.n)),.t (.sl (x2.scopes.map rI)),.t (.sl (x2.kids.map Form.row))]] noOb (.t (.sc (.bool r))) noOb
theorem m_spec_l5Uses_st (fu:Nat) (ih_m_spec_l5Uses:∀ k,k≤fu→zfu k):zfu (fu+1):=by
 intro x1 x2 r F0
 rw [zdG] at F0
 refine AC_i [.t (.sc (.bool r))] Tryz.func134 rfl Tryz.ntmps134 ?_
 intro C hC
 refine zb (za ?_)
 refine za9 ?_
 refine za9 ?_
 refine s_as ?_
 refine zf (zd ?_)
 refine zbj (α:=Nat) [4,6,7,8,9,10,11,12,13] [] [] (fun a=>[]) (fun a=>[]) (fun a=>a≤fu∧zcX a x1 x2 =some r) ?_ ?_
 refine zb (za ?_)
 refine s_fa zcT ?_
 refine zu yA3 ?_
 refine s_eq ?_
 refine s_mv ?_
 refine zo _ 9 F0 ?_ ?_<;>intro C1 F1
 refine zJ yA27 yS27 ?_
 refine zJ yA27 yS27 ?_
 obtain ⟨v2,V2,F2⟩:=zc F1
 refine zx [] (zcb fu _ _ _ V2) ?_
 refine zz ?_
 refine zf (zd ?_)
 refine zm F2 ?_ ?_<;>intro C3 F3
 refine zb (za ?_)
 refine s_as ?_
 refine zf (zd (zh (zfh (zn ?_))))
 cases F3
 exact zl [] [] Tryz.results134
 refine zi ?_
 exact s_jn (fu) ⟨by first | omega | (dsimp only;omega),F3⟩
 iterate 3 refine r_no rfl ?_
 refine zB ?_
 refine zf (zd (zaS rfl (zi ?_)))
 exact s_jn (fu) ⟨by first | omega | (dsimp only;omega),F1⟩
 clear F0
 rintro fu ⟨hl4,F1⟩
 obtain _ | fu:=fu
 · rw [zcX] at F1;cases F1
 rw [zcX] at F1
 refine zb (zb (za ?_))
 refine s_as ?_
 refine zf (zd (zk ?_))
 refine zbk (β:=Int) [4,5,14,15,16,17,18,19,20,21,22,23,24,25,26,27] [] [] (fun a=>[(5,.t (.sc (.int .i64 a.2)))]) (fun a=>[]) (fun a=>a.1≤fu∧zcj a.1 x1 x2 a.2=some r∧0≤a.2) (fu,0) ⟨Nat.le_refl _,F1,by simp⟩ ?_
 clear F1
 rintro ⟨fu,g5⟩ ⟨hl6,F2,hn_g5⟩
 dsimp only at hl6 F2 hn_g5 ⊢
 obtain _ | fu:=fu
 · rw [zcj] at F2;cases F2
 rw [zcj] at F2
 refine zb (zb (za ?_))
 refine s_mv ?_
 refine s_fa zH ?_
 refine zu yA25 ?_
 refine zF yU25 ?_
 refine s_lt ?_
 refine zf (zd ?_)
 refine zm F2 ?_ ?_<;>intro C7 F3
 refine zW 16 (fun B8=>?_)
 refine zi (zd (zb (zk (zb ?_))))
 refine z7 yMix (by kernel_rfl) ?_
 refine s_fa zH ?_
 refine zu yA25 ?_
 refine s_mv ?_
 obtain ⟨v9,V9,F4⟩:=zc F3
 refine zN Form.row V9 (Form.row_eq _) yE25 ?_
 refine zas yA27 yS27 ?_
 refine zJ yA27 yS27 ?_
 obtain ⟨v10,V10,F5⟩:=zc F4
 refine zx [] (ih_m_spec_l5Uses fu (by omega) _ _ _ V10) ?_
 refine zar (by kernel_rfl) ?_
 refine zd ?_
 refine zm F5 ?_ ?_<;>intro C11 F6
 refine zb (za ?_)
 refine s_as ?_
 refine zf (zd (zh (zj (zg (zy (zj (zg (zn ?_))))))))
 cases F6
 exact zl [] [] Tryz.results134
 refine zi (zaa (zd (za ?_)))
 refine s_mv ?_
 refine zO (zaJ C7 B8 hn_g5) ?_
 refine s_as ?_
 refine zf ?_
 exact s_rn (fu,(g5+1)) ⟨by first | omega | (dsimp only;omega),F6,by first | omega | (dsimp only;omega)⟩
 refine zA (zq (zp (zr (zd (zb (za ?_))))))
 refine s_as ?_
 refine zf (zd (zh (zn ?_)))
 cases F3
 exact zl [] [] Tryz.results134
theorem m_spec_l5Uses_all (fuel:Nat):zfu fuel:=by
 induction fuel using Nat.strongRecOn with
 | _ N ih =>
   cases N with
   | zero=>exact (by intro x1 x2 r h;rw [zdG] at h;cases h)
   | succ fu=>exact m_spec_l5Uses_st fu (fun k hk=>(ih k (by omega)))
theorem m_spec_l5Uses_ok (fuel:Nat):zfu fuel:=(m_spec_l5Uses_all fuel)
def m_spec_l5Count_AC (fuel:Nat):Prop:=∀ (x1:Form) (x2:(List Hit)) (r:Int),zfl fuel x1 x2=some r→AC Tryz.prog 102 [.ag [.t (.sc (.int .i64 x1.kind)),.t (.sc (.str x1.name)),.t (.sc (.int .i64 x1.n)),.t (.sl (x1.scopes.map rI)),.t (.sl (x1.kids.map Form.row))],.t (.sl (x2.map Hit.row))] noOb (.t (.sc (.int .i64 r))) noOb
theorem m_spec_l5Count_ok (fuel:Nat):m_spec_l5Count_AC fuel:=by
 intro x1 x2 r F0
 unfold zfl at F0
 refine AC_i [.t (.sc (.int .i64 r))] Tryz.func102 rfl Tryz.ntmps102 ?_
 intro C hC
 refine zb (za ?_)
 refine za9 ?_
 refine s_as ?_
 refine zf (zd (zb (za ?_)))
 refine s_as ?_
 refine zf (zd (zb (zb (za ?_))))
 refine s_as ?_
 refine zf (zd (zk ?_))
 refine zbk (β:=Int × Int) [4,5,6,7,8,9,10,11,12,13,14,15,16,17,18,19,20,21,22,23,24,25,26,27,28,29,30,31,32,33,34,35,36,37,38,39,40,41,42,43,44,45,46] [] [] (fun a=>[(5,.t (.sc (.int .i64 a.2.2))),(6,.t (.sc (.int .i64 a.2.1)))]) (fun a=>[]) (fun a=>a.1≤fuel∧zbG a.1 x1 x2 a.2.1 a.2.2=some r∧0≤a.2.1) (fuel,0,(-1)) ⟨Nat.le_refl _,F0,by simp⟩ ?_
 clear F0
 rintro ⟨fu,g1,g2⟩ ⟨hl3,F1,hn_g1⟩
 dsimp only at hl3 F1 hn_g1 ⊢
 obtain _ | fu:=fu
 · rw [zbG] at F1;cases F1
 rw [zbG] at F1
 refine zb (zb (za ?_))
 refine s_mv ?_
 refine s_mv ?_
 refine zF yU30 ?_
 refine s_lt ?_
 refine zf (zd ?_)
 refine zm F1 ?_ ?_<;>intro C4 F2
 refine zW 1 (fun B5=>?_)
 refine zi (zd (zb (zk (zb ?_))))
 refine zbj (α:=Nat × Bool) [13,14,15,16,17,18,19,20,21,22,23,24,25,26,27,28] [] [] (fun a=>[(28,.t (.sc (.bool a.2)))]) (fun a=>[]) (fun a=>a.1≤fu∧zb2 a.1 x1 x2 g1 g2 a.2=some r) ?_ ?_
 refine z7 yMix (by kernel_rfl) ?_
 refine s_mv ?_
 refine s_mv ?_
 obtain ⟨v6,V6,F3⟩:=zc F2
 refine zN Hit.row V6 (Hit.row_eq _) yE30 ?_
 refine s_fa zgc ?_
 refine zu yA3 ?_
 refine s_eq ?_
 refine s_mv ?_
 refine zo _ 19 F3 ?_ ?_<;>intro C7 F4
 iterate 8 refine r_no rfl ?_
 refine zz ?_
 refine zar (by kernel_rfl) ?_
 exact s_jn (fu,true) ⟨by first | omega | (dsimp only;omega),F4⟩
 refine zJ yA27 yS27 ?_
 refine s_mv ?_
 refine s_mv ?_
 obtain ⟨v8,V8,F5⟩:=zc F4
 refine zN Hit.row V8 (Hit.row_eq _) yE30 ?_
 refine s_fa zfi ?_
 refine zas yA27 yS27 ?_
 obtain ⟨v9,V9,F6⟩:=zc F5
 refine zx [] (m_spec_l5Uses_ok fu _ _ _ V9) ?_
 refine zbq ?_
 refine zB ?_
 refine zar (by kernel_rfl) ?_
 exact s_jn (fu,(!v9)) ⟨by first | omega | (dsimp only;omega),F6⟩
 clear F2
 rintro ⟨fu,g10⟩ ⟨hl11,F3⟩
 dsimp only at hl11 F3 ⊢
 obtain _ | fu:=fu
 · rw [zb2] at F3;cases F3
 rw [zb2] at F3
 refine zm F3 ?_ ?_<;>intro C12 F4
 refine zA (zq (zr (zd (za ?_))))
 refine s_mv ?_
 refine zO (zaJ C4 B5 hn_g1) ?_
 refine s_as ?_
 refine zf ?_
 exact s_rn (fu,(g1+1),g2) ⟨by first | omega | (dsimp only;omega),F4,by first | omega | (dsimp only;omega)⟩
 refine zi (zd ?_)
 refine zbj (α:=Nat) [4,29,30,31,32,33,34,35,36,37,38,39,40] [] [] (fun a=>[]) (fun a=>[]) (fun a=>a≤fu∧zcz a x1 x2 g1 =some r) ?_ ?_
 refine zb (za ?_)
 refine s_mv ?_
 refine s_ge ?_
 refine s_mv ?_
 refine zo _ 31 F4 ?_ ?_<;>intro C13 F5
 iterate 3 refine s_mv ?_
 obtain ⟨v14,V14,F6⟩:=zc F5
 refine zN Hit.row V14 (Hit.row_eq _) yE30 ?_
 refine s_fa zfP ?_
 refine zu yA30 ?_
 refine zF yU30 ?_
 refine s_ne ?_
 refine zz ?_
 refine zf (zd ?_)
 refine zm F6 ?_ ?_<;>intro C15 F7
 refine zb (za ?_)
 refine s_as ?_
 refine zf (zd (zh (zfh (zj (zg (zy (zj (zg (zn ?_)))))))))
 cases F7
 exact zl [] [] Tryz.results102
 refine zi ?_
 exact s_jn (fu) ⟨by first | omega | (dsimp only;omega),F7⟩
 iterate 8 refine r_no rfl ?_
 refine zB ?_
 refine zf (zd (zaS rfl (zi ?_)))
 exact s_jn (fu) ⟨by first | omega | (dsimp only;omega),F5⟩
 clear F4
 rintro fu ⟨hl16,F5⟩
 obtain _ | fu:=fu
 · rw [zcz] at F5;cases F5
 rw [zcz] at F5
 refine za ?_
 refine s_mv ?_
 refine s_mv ?_
 obtain ⟨v17,V17,F6⟩:=zc F5
 refine zN Hit.row V17 (Hit.row_eq _) yE30 ?_
 refine s_fa zfP ?_
 refine zu yA30 ?_
 refine zF yU30 ?_
 refine s_as ?_
 refine zf (zaa (zd (za ?_)))
 refine s_mv ?_
 refine zO (zaJ C4 B5 hn_g1) ?_
 refine s_as ?_
 refine zf ?_
 exact s_rn (fu,(g1+1),(v17.many.length:Int)) ⟨by first | omega | (dsimp only;omega),F6,by first | omega | (dsimp only;omega)⟩
 refine zA (zq (zp (zr (zd (zb (za ?_))))))
 refine s_mv ?_
 refine s_as ?_
 refine zf (zd (zh (zn ?_)))
 cases F2
 exact zl [] [] Tryz.results102
def m_spec_l5Nth_AC (fuel:Nat):Prop:=∀ (x1:Form) (x2:(List Hit)) (x3:Int) (r:(List Hit)),zfQ fuel x1 x2 x3=some r→AC Tryz.prog 103 [.ag [.t (.sc (.int .i64 x1.kind)),.t (.sc (.str x1.name)),.t (.sc (.int .i64 x1.n)),.t (.sl (x1.scopes.map rI)),.t (.sl (x1.kids.map Form.row))],.t (.sl (x2.map Hit.row)),.t (.sc (.int .i64 x3))] noOb (.t (.sl (r.map Hit.row))) noOb
theorem m_spec_l5Nth_ok (fuel:Nat):m_spec_l5Nth_AC fuel:=by
 intro x1 x2 x3 r F0
 unfold zfQ at F0
 refine AC_i [.t (.sl (r.map Hit.row))] Tryz.func103 rfl Tryz.ntmps103 ?_
 intro C hC
 refine zb (za ?_)
 refine za9 ?_
 refine s_as ?_
 refine zf (zd (zb (za ?_)))
 refine s_bs Hit.row ([]:List Hit) yP30 yR38 ?_
 refine s_as ?_
 refine zf (zd (zb (zb (za ?_))))
 refine s_as ?_
 refine zf (zd (zk ?_))
 refine zdl 7 10 5020 (by conv=>lhs;whnf) (by conv=>lhs;whnf) rfl ?_
 refine zap [7,8,9,11,12,13,14,15,16,17,18,19,20,21,22,23,24,25,26,27,28,29,30,31,32,33,34,35,36,37,38] [5020] [9,37,38] [5020] (fun a:Nat × (List Hit) × Int=>a.1) (fun a:Nat × (List Hit) × Int=>[(7,.ar 5020),(8,.t (.sc (.int .i64 a.2.2)))]) (fun a:Nat × (List Hit) × Int=>[(5020,.arr (a.2.1.map Hit.row) 38 true)]) (fun a:Nat × (List Hit) × Int=>a.1≤fuel∧zca a.1 x1 x2 x3 a.2.1 a.2.2=some r∧0≤a.2.2) (fuel,([]:List Hit),0) ⟨Nat.le_refl _,F0,by simp⟩ (by rfl) (by rfl) (fun _=>rfl) (zG (by conv=>lhs;whnf) (by rfl) (zG (by conv=>lhs;whnf) (by rfl) za7)) (zT (by conv=>lhs;whnf) (by rfl) zaW) (zb7 hC rfl) (by repeat (first | exact zai rfl | refine zat rfl ?_ | refine zX rfl ?_)) (by repeat (first | exact zaL | exact zam rfl | refine zau rfl ?_ | refine zY rfl ?_)) ?_
 clear F0
 rintro ⟨fu,g1,g2⟩ ⟨hl3,F1,hn_g2⟩
 dsimp only at hl3 F1 hn_g2 ⊢
 obtain _ | fu:=fu
 · rw [zca] at F1;cases F1
 rw [zca] at F1
 refine zb (zb (za ?_))
 refine s_mv ?_
 refine s_mv ?_
 refine zF yU30 ?_
 refine s_lt ?_
 refine zf (zd ?_)
 refine zm F1 ?_ ?_<;>intro C4 F2
 refine zW 1 (fun B5=>?_)
 refine zi (zd (zb (zk (zb (za ?_)))))
 refine s_mv ?_
 refine s_mv ?_
 obtain ⟨v6,V6,F3⟩:=zc F2
 refine zN Hit.row V6 (Hit.row_eq _) yE30 ?_
 refine zas yA38 yS38 ?_
 refine zR yZ38 ?_
 refine zac yS38 ?_
 refine zf (zd (zb ?_))
 refine zbj (α:=Nat × Bool) [21,22,23,24,25,26,27,28,29] [] [] (fun a=>[(29,.t (.sc (.bool a.2)))]) (fun a=>[]) (fun a=>a.1≤fu∧zcM a.1 x1 x2 x3 g1 g2 v6 a.2=some r) ?_ ?_
 refine za ?_
 refine s_fa zgc ?_
 refine zu yA3 ?_
 refine s_gt ?_
 refine s_mv ?_
 refine zo _ 24 F3 ?_ ?_<;>intro C7 F4
 refine zJ yA27 yS27 ?_
 refine s_fa zfi ?_
 refine zas yA27 yS27 ?_
 obtain ⟨v8,V8,F5⟩:=zc F4
 refine zx [] (m_spec_l5Uses_ok fu _ _ _ V8) ?_
 refine zz ?_
 refine zf ?_
 exact s_jn (fu,v8) ⟨by first | omega | (dsimp only;omega),F5⟩
 iterate 4 refine r_no rfl ?_
 refine zB ?_
 refine zf ?_
 exact s_jn (fu,false) ⟨by first | omega | (dsimp only;omega),F4⟩
 clear F3
 rintro ⟨fu,g9⟩ ⟨hl10,F4⟩
 dsimp only at hl10 F4 ⊢
 obtain _ | fu:=fu
 · rw [zcM] at F4;cases F4
 rw [zcM] at F4
 refine zm F4 ?_ ?_<;>intro C11 F5
 refine za ?_
 refine s_fa zfP ?_
 refine zu yA30 ?_
 refine s_mv ?_
 obtain ⟨v12,V12,F6⟩:=zc F5
 refine zN Hit.row V12 (Hit.row_eq _) yE30 ?_
 refine zas yA38 yS38 ?_
 refine zac yS38 ?_
 refine zf (zd (za ?_))
 refine s_mv ?_
 refine zJ yA38 yS38 ?_
 refine s_bs Hit.row [v12] yP30 yR38 ?_
 obtain ⟨hk13,F7⟩:=zab F6
 refine zd4 Hit.row (fun y=>Hit.row_len y) hk13 yP30 ?_
 refine s_as ?_
 refine zf (zaa (zd (za ?_)))
 refine s_mv ?_
 refine zO (zaJ C4 B5 hn_g2) ?_
 refine s_as ?_
 refine zf ?_
 exact s_rn (fu,(g1++[v12]),(g2+1)) ⟨by first | omega | (dsimp only;omega),F7,by first | omega | (dsimp only;omega)⟩ [(5020,38)]
 refine zi (zd (za ?_))
 refine s_mv ?_
 refine zJ yA38 yS38 ?_
 refine s_bs Hit.row [v6] yP30 yR38 ?_
 obtain ⟨hk14,F6⟩:=zab F5
 refine zd4 Hit.row (fun y=>Hit.row_len y) hk14 yP30 ?_
 refine s_as ?_
 refine zf (zaa (zd (za ?_)))
 refine s_mv ?_
 refine zO (zaJ C4 B5 hn_g2) ?_
 refine s_as ?_
 refine zf ?_
 exact s_rn (fu,(g1++[v6]),(g2+1)) ⟨by first | omega | (dsimp only;omega),F6,by first | omega | (dsimp only;omega)⟩ [(5020,38)]
 refine zA (zq (zp (zr (zd (zb (za ?_))))))
 refine s_mv ?_
 refine s_as ?_
 refine zf (zd (zh (zn ?_)))
 cases F2
 exact zl [] [5020] Tryz.results103
def zfw (fuel:Nat):Prop:=∀ (x1:Form) (x2:(List Hit)) (r:(Form × Bool)),zda fuel x1 x2=some r→AC Tryz.prog 42 [.ag [.t (.sc (.int .i64 x1.kind)),.t (.sc (.str x1.name)),.t (.sc (.int .i64 x1.n)),.t (.sl (x1.scopes.map rI)),.t (.sl (x1.kids.map Form.row))],.t (.sl (x2.map Hit.row))] noOb (.tp [.ag [.t (.sc (.int .i64 r.1.kind)),.t (.sc (.str r.1.name)),.t (.sc (.int .i64 r.1.n)),.t (.sl (r.1.scopes.map rI)),.t (.sl (r.1.kids.map Form.row))],.t (.sc (.bool r.2))]) noOb
theorem m_spec_l5Fill_st (fu:Nat) (ih_m_spec_l5Fill:∀ k,k≤fu→zfw k):zfw (fu+1):=by
 intro x1 x2 r F0
 rw [zda] at F0
 refine AC_i [.ag [.t (.sc (.int .i64 r.1.kind)),.t (.sc (.str r.1.name)),.t (.sc (.int .i64 r.1.n)),.t (.sl (r.1.scopes.map rI)),.t (.sl (r.1.kids.map Form.row))],.t (.sc (.bool r.2))] Tryz.func42 rfl Tryz.ntmps42 ?_
 intro C hC
 refine zb (za ?_)
 refine za9 ?_
 refine zR yZ27 ?_
 refine s_as ?_
 refine zf (zd (zb (za ?_)))
 refine s_as ?_
 refine zf (zd ?_)
 refine zbj (α:=Nat × Int) [6,16,17,18,19,20,21] [] [] (fun a=>[(6,.t (.sc (.int .i64 a.2)))]) (fun a=>[]) (fun a=>a.1≤fu∧zcp a.1 x1 x2 a.2=some r) ?_ ?_
 refine zb (za ?_)
 refine s_fa zcT ?_
 refine zu yA3 ?_
 refine s_eq ?_
 refine zf (zd ?_)
 refine zm F0 ?_ ?_<;>intro C1 F1
 refine za ?_
 refine s_mv ?_
 refine zJ yA27 yS27 ?_
 obtain ⟨v2,V2,F2⟩:=zc F1
 refine zx [] (m_spec_l4Find_ok fu _ _ _ V2) ?_
 refine s_as ?_
 refine zf ?_
 exact s_jn (fu,v2) ⟨by first | omega | (dsimp only;omega),F2⟩
 refine zi ?_
 exact s_jn (fu,(-1)) ⟨by first | omega | (dsimp only;omega),F1⟩
 clear F0
 rintro ⟨fu,g3⟩ ⟨hl4,F1⟩
 dsimp only at hl4 F1 ⊢
 obtain _ | fu:=fu
 · rw [zcp] at F1;cases F1
 rw [zcp] at F1
 refine zb (zb (za ?_))
 refine s_mv ?_
 refine s_ge ?_
 refine zf (zd ?_)
 refine zm F1 ?_ ?_<;>intro C5 F2
 refine zb ?_
 refine z7 yMix (by kernel_rfl) ?_
 refine s_mv ?_
 refine s_mv ?_
 obtain ⟨v6,V6,F3⟩:=zc F2
 refine zN Hit.row V6 (Hit.row_eq _) yE30 ?_
 refine s_fa yF38_2 ?_
 refine zas yA27 yS27 ?_
 obtain ⟨v7,V7,F4⟩:=zc F3
 refine zU [(9203,2029),(9204,12029)] [] _ _ (zbW fu _ _ V7) ?_
 refine s_mv ?_
 refine s_mv ?_
 obtain ⟨v8,V8,F5⟩:=zc F4
 refine zN Hit.row V8 (Hit.row_eq _) yE30 ?_
 refine s_fa zgc ?_
 refine zu yA3 ?_
 refine s_eq ?_
 refine zac yS27 ?_
 refine s_as ?_
 refine zar (by kernel_rfl) ?_
 refine zd (zh (zg (zn ?_)))
 cases F5
 exact zI [] [2029,12029] (by rw [Tryz.results42];exact (zZ (by conv=>lhs;whnf) (by conv=>lhs;whnf) yA27 yS27 rfl (zah (by conv=>lhs;whnf) zP)))
 refine zi (zd (zb ?_))
 refine z7 yMix (by kernel_rfl) ?_
 refine s_fa zcT ?_
 refine zu yA3 ?_
 refine s_fa zdp ?_
 refine zu yA9 ?_
 refine s_fa zgd ?_
 refine zu yA3 ?_
 refine s_bs rI ([]:List Int) yP24 yR3 ?_
 refine s_fa zeR ?_
 refine zu yA24 ?_
 obtain ⟨hk9,F3⟩:=zab F2
 refine zd4 rI (fun _=>rfl) hk9 yP24 ?_
 refine zeJ yZ27 yL27 ?_
 refine zR yZ27 ?_
 refine zac yS27 ?_
 refine zar (by kernel_rfl) ?_
 refine zd (zb (za ?_))
 refine s_as ?_
 refine zf (zd (zb (zb (za ?_))))
 refine s_as ?_
 refine zf (zd (zk ?_))
 refine zgZ 7 5040 27 [.t (.sc (.int .i64 x1.kind)),.t (.sc (.str x1.name)),.t (.sc (.int .i64 x1.n)),.ar 45,.ar 5040] yI27.choose_spec ?_
 refine zap [5,8,9,10,11,12,13,14,15,47,48,49,50,51,52,53,54,55,56,57,58,59,60,61,62,63,64,65,66,67,68,69,70,71,72,73,74,75,76,77,78,79,80,81,82,83,84,85,86,87,88,89,90,91,92,93,94,95,96,97,98,99,100,101,102,103,104,105,106,107,108,109,110,111,112,113,114,115,116,117,118,119,120,121,122,123,124,125,126,127] [7,5040] [5100] [5040] (fun a:Nat × Int × Int × (List Form)=>a.1) (fun a:Nat × Int × Int × (List Form)=>[(5,.t (.sc (.bool false))),(8,.t (.sc (.int .i64 a.2.2.1))),(9,.t (.sc (.int .i64 a.2.1)))]) (fun a:Nat × Int × Int × (List Form)=>[(7,.box [.t (.sc (.int .i64 x1.kind)),.t (.sc (.str x1.name)),.t (.sc (.int .i64 x1.n)),.ar 45,.ar 5040]),(5040,.arr (a.2.2.2.map Form.row) 27 true)]) (fun a:Nat × Int × Int × (List Form)=>a.1≤fu∧zbC a.1 x1 x2 a.2.1 a.2.2.1 a.2.2.2=some r) (fu,0,0,([]:List Form)) ⟨Nat.le_refl _,F3⟩ (by rfl) (by rfl) (fun _=>rfl) (zG (by conv=>lhs;whnf) (by rfl) (zG (by conv=>lhs;whnf) (by rfl) (zG (by conv=>lhs;whnf) (by rfl) za7))) (zT (by conv=>lhs;whnf) (by rfl) (zT (by conv=>lhs;whnf) (by rfl) zaW)) (zb7 hC rfl) (by repeat (first | exact zai rfl | refine zat rfl ?_ | refine zX rfl ?_)) (by repeat (first | exact zaL | exact zam rfl | refine zau rfl ?_ | refine zY rfl ?_)) ?_
 clear F3
 rintro ⟨fu,g10,g11,g12⟩ ⟨hl13,F4⟩
 dsimp only at hl13 F4 ⊢
 obtain _ | fu:=fu
 · rw [zbC] at F4;cases F4
 rw [zbC] at F4
 refine zb (zb (za ?_))
 refine s_mv ?_
 refine s_fa zH ?_
 refine zu yA25 ?_
 refine zF yU25 ?_
 refine s_lt ?_
 refine zf (zd ?_)
 refine zm F4 ?_ ?_<;>intro C14 F5
 refine zW 49 (fun B15=>?_)
 refine zi (zd (zb (zk (zb (zb (za ?_))))))
 refine s_fa zH ?_
 refine zu yA25 ?_
 refine s_mv ?_
 obtain ⟨v16,V16,F6⟩:=zc F5
 refine zN Form.row V16 (Form.row_eq _) yE25 ?_
 refine zas yA27 yS27 ?_
 obtain ⟨v17,V17,F7⟩:=zc F6
 refine zx [] (zaO fu _ _ V17) ?_
 refine zf (zd ?_)
 refine zm F7 ?_ ?_<;>intro C18 F8
 refine zA (zq (zr (zd (za ?_))))
 refine s_mv ?_
 refine zO (zaJ C14 B15 (zfI V16).1) ?_
 refine s_as ?_
 refine zf ?_
 exact s_rn (fu,(g10+1),g11,g12) ⟨by first | omega | (dsimp only;omega),F8⟩
 refine zi (zd (zb (za ?_)))
 refine s_as ?_
 refine zf (zd ?_)
 refine zbj (α:=Nat × Bool) [11,60,61,62,63,64,65,66,67,68,69,70,71,72,73,74] [] [] (fun a=>[(11,.t (.sc (.bool a.2)))]) (fun a=>[]) (fun a=>a.1≤fu∧zco a.1 x1 x2 g10 g11 g12 a.2=some r) ?_ ?_
 refine za ?_
 refine s_mv ?_
 refine zO (zaJ C14 B15 (zfI V16).1) ?_
 refine s_fa zH ?_
 refine zu yA25 ?_
 refine zF yU25 ?_
 refine s_lt ?_
 refine s_mv ?_
 refine zo _ 66 F8 ?_ ?_<;>intro C19 F9
 refine s_fa zH ?_
 refine zu yA25 ?_
 refine s_mv ?_
 refine zO (zaJ C14 B15 (zfI V16).1) ?_
 obtain ⟨v20,V20,F10⟩:=zc F9
 refine zN Form.row V20 (Form.row_eq _) yE25 ?_
 refine zas yA27 yS27 ?_
 obtain ⟨v21,V21,F11⟩:=zc F10
 refine zx [] (zaO fu _ _ V21) ?_
 refine zz ?_
 refine s_as ?_
 refine zf ?_
 exact s_jn (fu,v21) ⟨by first | omega | (dsimp only;omega),F11⟩
 iterate 7 refine r_no rfl ?_
 refine zB ?_
 refine s_as ?_
 refine zf ?_
 exact s_jn (fu,false) ⟨by first | omega | (dsimp only;omega),F9⟩
 clear F8
 rintro ⟨fu,g22⟩ ⟨hl23,F9⟩
 dsimp only at hl23 F9 ⊢
 obtain _ | fu:=fu
 · rw [zco] at F9;cases F9
 rw [zco] at F9
 refine zbj (α:=Nat × Int) [10,75,76,77,78,79,80,81,82] [] [] (fun a=>[(10,.t (.sc (.int .i64 a.2)))]) (fun a=>[]) (fun a=>a.1≤fu∧zcn a.1 x1 x2 g10 g11 g12 g22 a.2=some r) ?_ ?_
 refine zb (za ?_)
 refine s_mv ?_
 refine zf (zd ?_)
 refine zm F9 ?_ ?_<;>intro C24 F10
 refine za ?_
 refine s_fa zH ?_
 refine zu yA25 ?_
 refine s_mv ?_
 obtain ⟨v25,V25,F11⟩:=zc F10
 refine zN Form.row V25 (Form.row_eq _) yE25 ?_
 refine zas yA27 yS27 ?_
 refine s_mv ?_
 obtain ⟨v26,V26,F12⟩:=zc F11
 refine zx [] (m_spec_l5Count_ok fu _ _ _ V26) ?_
 refine s_as ?_
 refine zf ?_
 exact s_jn (fu,v26) ⟨by first | omega | (dsimp only;omega),F12⟩
 refine zi ?_
 exact s_jn (fu,1) ⟨by first | omega | (dsimp only;omega),F10⟩
 clear F9
 rintro ⟨fu,g27⟩ ⟨hl28,F10⟩
 dsimp only at hl28 F10 ⊢
 obtain _ | fu:=fu
 · rw [zcn] at F10;cases F10
 rw [zcn] at F10
 refine zb (zb (za ?_))
 refine s_mv ?_
 refine s_lt ?_
 refine zf (zd ?_)
 refine zm F10 ?_ ?_<;>intro C29 F11
 refine zb (za ?_)
 refine zJ yA27 yS27 ?_
 refine zac yS27 ?_
 refine s_as ?_
 refine zf (zd (zh (zg (zj (zg (zy (zj (zg (zn ?_)))))))))
 cases F11
 exact zI [] [] (by rw [Tryz.results42];exact (zZ (by conv=>lhs;whnf) (by conv=>lhs;whnf) yA27 yS27 rfl (zah (by conv=>lhs;whnf) zP)))
 refine zi (zd (zb (za ?_)))
 refine s_as ?_
 refine zf (zd (zk ?_))
 refine awp_mvB 7 5040 5100 [.t (.sc (.int .i64 x1.kind)),.t (.sc (.str x1.name)),.t (.sc (.int .i64 x1.n)),.ar 45,.ar 5100] ?_
 refine zap [5,8,12,13,14,15,86,87,88,89,90,91,92,93,94,95,96,97,98,99,100,101,102,103,104,105,106,107,108,109,110,111,112,113,114,115,116,117,118,119,120,121,122,123,124,125,126,127] [7,5100] [14,125,126] [5100] (fun a:Nat × Int × Int × (List Form)=>a.1) (fun a:Nat × Int × Int × (List Form)=>[(5,.t (.sc (.bool false))),(8,.t (.sc (.int .i64 a.2.1))),(12,.t (.sc (.int .i64 a.2.2.1)))]) (fun a:Nat × Int × Int × (List Form)=>[(7,.box [.t (.sc (.int .i64 x1.kind)),.t (.sc (.str x1.name)),.t (.sc (.int .i64 x1.n)),.ar 45,.ar 5100]),(5100,.arr (a.2.2.2.map Form.row) 27 true)]) (fun a:Nat × Int × Int × (List Form)=>a.1≤fu∧zcl a.1 x1 x2 g10 g22 g27 a.2.1 a.2.2.1 a.2.2.2=some r) (fu,g11,0,g12) ⟨Nat.le_refl _,F11⟩ (by rfl) (by rfl) (fun _=>rfl) (zG (by conv=>lhs;whnf) (by rfl) (zG (by conv=>lhs;whnf) (by rfl) (zG (by conv=>lhs;whnf) (by rfl) za7))) (zT (by conv=>lhs;whnf) (by rfl) (zT (by conv=>lhs;whnf) (by rfl) zaW)) (zb7 hC rfl) (by repeat (first | exact zai rfl | refine zat rfl ?_ | refine zX rfl ?_)) (by repeat (first | exact zaL | exact zam rfl | refine zau rfl ?_ | refine zY rfl ?_)) ?_
 clear F11
 rintro ⟨fu,g30,g31,g32⟩ ⟨hl33,F12⟩
 dsimp only at hl33 F12 ⊢
 obtain _ | fu:=fu
 · rw [zcl] at F12;cases F12
 rw [zcl] at F12
 refine zb (zb (za ?_))
 refine s_mv ?_
 refine s_mv ?_
 refine s_lt ?_
 refine zf (zd ?_)
 refine zm F12 ?_ ?_<;>intro C34 F13
 refine zi (zd (zb (zk (zb (za ?_)))))
 refine s_mv ?_
 refine s_as ?_
 refine zf (zd ?_)
 refine zbj (α:=Nat × (List Hit)) [13,92,93,94,95,96,97,98,99,100] [] [] (fun a=>[(13,.t (.sl (a.2.map Hit.row)))]) (fun a=>[]) (fun a=>a.1≤fu∧zcY a.1 x1 x2 g10 g22 g27 g30 g31 g32 a.2=some r) ?_ ?_
 refine zb (za ?_)
 refine s_mv ?_
 refine zf (zd ?_)
 refine zm F13 ?_ ?_<;>intro C35 F14
 refine za ?_
 refine s_fa zH ?_
 refine zu yA25 ?_
 refine s_mv ?_
 obtain ⟨v36,V36,F15⟩:=zc F14
 refine zN Form.row V36 (Form.row_eq _) yE25 ?_
 refine zas yA27 yS27 ?_
 refine s_mv ?_
 refine s_mv ?_
 obtain ⟨v37,V37,F16⟩:=zc F15
 refine zx [] (m_spec_l5Nth_ok fu _ _ _ _ V37) ?_
 refine s_as ?_
 refine zf ?_
 exact s_jn (fu,v37) ⟨by first | omega | (dsimp only;omega),F16⟩
 refine zi ?_
 exact s_jn (fu,x2) ⟨by first | omega | (dsimp only;omega),F14⟩
 clear F13
 rintro ⟨fu,g38⟩ ⟨hl39,F14⟩
 dsimp only at hl39 F14 ⊢
 obtain _ | fu:=fu
 · rw [zcY] at F14;cases F14
 rw [zcY] at F14
 refine zb (za ?_)
 refine s_fa zH ?_
 refine zu yA25 ?_
 refine s_mv ?_
 obtain ⟨v40,V40,F15⟩:=zc F14
 refine zN Form.row V40 (Form.row_eq _) yE25 ?_
 refine zas yA27 yS27 ?_
 refine s_mv ?_
 obtain ⟨v41,V41,F16⟩:=zc F15
 refine zx [] (ih_m_spec_l5Fill fu (by omega) _ _ _ V41) ?_
 refine s_mv ?_
 refine zbJ ?_
 refine zbJ ?_
 refine zR yZ27 ?_
 refine zac yS27 ?_
 refine s_as ?_
 refine zf (zd (zb (za ?_)))
 refine s_mv ?_
 refine zJ yA27 yS27 ?_
 obtain ⟨v42,V42,F17⟩:=zc F16
 refine zx [] (zhz fu _ _ V42) ?_
 refine zO rfl ?_
 refine s_as ?_
 refine zf (zd (zb ?_))
 refine zbj (α:=Nat × Bool) [115,116,117,118,119,120] [] [] (fun a=>[(120,.t (.sc (.bool a.2)))]) (fun a=>[]) (fun a=>a.1≤fu∧zcm a.1 x1 x2 g10 g22 g27 g30 g31 g32 v41 v42 a.2=some r) ?_ ?_
 refine za ?_
 refine s_mv ?_
 refine zbq ?_
 refine s_mv ?_
 refine zo _ 117 F17 ?_ ?_<;>intro C43 F18
 refine r_no rfl (r_no rfl ?_)
 refine zz ?_
 refine zf ?_
 exact s_jn (fu,true) ⟨by first | omega | (dsimp only;omega),F18⟩
 refine s_mv ?_
 refine s_gt ?_
 refine zB ?_
 refine zf ?_
 exact s_jn (fu,(decide (400 < (w64 (g30+v42))))) ⟨by first | omega | (dsimp only;omega),F18⟩
 clear F17
 rintro ⟨fu,g44⟩ ⟨hl45,F18⟩
 dsimp only at hl45 F18 ⊢
 obtain _ | fu:=fu
 · rw [zcm] at F18;cases F18
 rw [zcm] at F18
 refine zm F18 ?_ ?_<;>intro C46 F19
 refine zb (za ?_)
 refine zJ yA27 yS27 ?_
 refine zac yS27 ?_
 refine s_as ?_
 refine zf (zd (zh (zg (zj (zg (zy (zj (zj (zg (zy (zj (zg (zn ?_)))))))))))))
 cases F19
 exact zI [] [] (by rw [Tryz.results42];exact (zZ (by conv=>lhs;whnf) (by conv=>lhs;whnf) yA27 yS27 rfl (zah (by conv=>lhs;whnf) zP)))
 refine zi (zd (za ?_))
 refine s_fa zH ?_
 refine zu yA25 ?_
 refine zJ yA27 yS27 ?_
 refine s_bs Form.row [v41.1] yP25 yR27 ?_
 obtain ⟨hk47,F20⟩:=zab F19
 refine zd4 Form.row (fun y=>Form.row_len y) hk47 yP25 ?_
 refine s_fa zH ?_
 refine zgO yS25 ?_
 refine zf (zaa (zd (za ?_)))
 refine s_mv ?_
 refine zO rfl ?_
 refine s_as ?_
 refine zf ?_
 exact s_rn (fu,(w64 (g30+v42)),(w64 (g31+1)),(g32++[v41.1])) ⟨by first | omega | (dsimp only;omega),F20⟩ [(5100,126)]
 refine zA (zq (zp (zr (zaa (zd (za ?_))))))
 refine s_mv ?_
 refine zO rfl ?_
 refine s_as ?_
 refine zf ?_
 exact s_rn (fu,(w64 (g10+1)),g30,g32) ⟨by first | omega | (dsimp only;omega),F13⟩ [(5040,5100)]
 refine zA (zq (zp (zr (zd (zb (za ?_))))))
 refine zJ yA27 yS27 ?_
 refine zac yS27 ?_
 refine s_as ?_
 refine zf (zd (zh (zn ?_)))
 cases F5
 exact zI [] [45,5040] (by rw [Tryz.results42];exact (zZ (by conv=>lhs;whnf) (by conv=>lhs;whnf) yA27 yS27 rfl (zah (by conv=>lhs;whnf) zP)))
end Go.Abs
