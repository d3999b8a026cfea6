/- A part of the proof: what the functions that the law calls answer, as pure values. -/
import Derived.Test.YtjjjnhpghhamkaaGreatK8d582f2e31e6
import Derived.Test.YtjjjnhpghhamkaaGreatK06634278733b
import Derived.Test.YtjjjnhpghhamkaaGreatK8faf616840a9
set_option linter.unusedSimpArgs false
set_option linter.unusedVariables false
set_option maxRecDepth 100000
set_option maxHeartbeats 4000000
namespace Go.Abs
open Go.Proofs
def m_spec_l15Open_AC (fuel:Nat):Prop:=∀ (x1:(List Int)) (r:zb9),zgc fuel x1=some r→AC Tryz.prog 59 [.t (.sl (x1.map rB))] (objs []) (.rf 10 0) (objs [(10,.box [.t (.sl (r.b.map rB)),.t (.sc (.int .i64 r.p))])])
theorem m_spec_l15Open_ok (fuel:Nat):m_spec_l15Open_AC fuel:=by
 intro x1 r F0
 unfold zgc at F0
 refine AC_i [.rf 10 0] Tryz.func59 rfl Tryz.ntmps59 ?_
 intro C hC
 refine zb (za ?_)
 refine s_as ?_
 refine zf (zd (zb (zb (za ?_))))
 refine s_mv ?_
 refine zC yU22 ?_
 refine s_gt ?_
 refine zf (zd ?_)
 refine zm F0 ?_ ?_<;>intro C1 F1
 refine zM 0 (fun B2=>?_)
 refine za ?_
 refine s_mv ?_
 obtain ⟨v3,V3,F2⟩:=zc F1
 refine s_sl01 rB (fun _=>rfl) V3 yU22 yE22 ?_
 refine s_as ?_
 refine zf (zd (zb (za ?_)))
 refine s_mv ?_
 refine zgE yZ145 yL145 ?_
 refine zaN ?_
 refine s_as ?_
 refine zf (zd (zh (zn ?_)))
 cases F2
 exact zk _ [] Tryz.results59
 refine zi (zd (zb (za ?_)))
 refine s_mv ?_
 refine zgE yZ145 yL145 ?_
 refine zaN ?_
 refine s_as ?_
 refine zf (zd (zh (zn ?_)))
 cases F1
 exact zk _ [] Tryz.results59
def m_spec_l15Rd_pick_AC (fuel:Nat):Prop:=∀ (o1:zb9) (x2:Int) (r:(Int × zb9)),zaq fuel o1 x2=some r→AC Tryz.prog 60 [.rf 9000 0,.t (.sc (.int .i64 x2))] (objs [(9000,.box [.t (.sl (o1.b.map rB)),.t (.sc (.int .i64 o1.p))])]) (.t (.sc (.int .i64 r.1))) (objs [(9000,.box [.t (.sl (r.2.b.map rB)),.t (.sc (.int .i64 r.2.p))])])
theorem zaB (fuel:Nat):m_spec_l15Rd_pick_AC fuel:=by
 intro o1 x2 r F0
 unfold zaq at F0
 refine AC_i [.t (.sc (.int .i64 r.1))] Tryz.func60 rfl Tryz.ntmps60 ?_
 intro C hC
 refine zb (za ?_)
 refine s_as ?_
 refine zf (zd (zb (za ?_)))
 refine s_mv ?_
 refine s_mv ?_
 refine s_nc ?_
 refine s_fa yF145_1 ?_
 refine zu yA3 ?_
 refine zJ rfl ?_
 refine s_nc ?_
 refine s_fa yF145_1 ?_
 refine zii yS3 ?_
 refine zf (zd (zb (zb (za ?_))))
 refine s_mv ?_
 refine s_lt ?_
 refine s_mv ?_
 refine zo _ 17 F0 ?_ ?_<;>intro C1 F1
 iterate 6 refine r_no rfl ?_
 refine zA ?_
 refine zf (zd (zT rfl (zb (za ?_))))
 refine s_as ?_
 refine zf (zd (zh (zg (zn ?_))))
 cases F1
 exact zk _ [] Tryz.results60
 refine s_mv ?_
 refine s_nc ?_
 refine s_fa yF145_0 ?_
 refine zu yA22 ?_
 refine zC yU22 ?_
 refine s_eq ?_
 refine zy ?_
 refine zf (zd ?_)
 refine zm F1 ?_ ?_<;>intro C2 F2
 refine zb (za ?_)
 refine s_as ?_
 refine zf (zd (zh (zg (zn ?_))))
 cases F2
 exact zk _ [] Tryz.results60
 refine zi (zd (zb (za ?_)))
 refine s_mv ?_
 refine s_nc ?_
 refine s_fa yF145_1 ?_
 refine zu yA3 ?_
 refine zih rfl ?_
 refine s_as ?_
 refine zf (zd (zb (zb (za ?_))))
 refine s_mv ?_
 refine s_mv ?_
 refine s_nc ?_
 refine s_fa yF145_0 ?_
 refine zu yA22 ?_
 refine zC yU22 ?_
 refine s_lt ?_
 refine zf (zd ?_)
 refine zm F2 ?_ ?_<;>intro C3 F3
 refine zb (za ?_)
 refine s_mv ?_
 refine s_nc ?_
 refine s_fa yF145_0 ?_
 refine zu yA22 ?_
 refine s_mv ?_
 obtain ⟨v4,V4,F4⟩:=zc F3
 refine zK rB V4 rfl yE22 ?_
 refine zu yA5 ?_
 refine s_int yU5 yU3 rfl ?_
 refine s_mv ?_
 obtain ⟨hk5,F5⟩:=zac F4
 refine s_rem (h0:=not_zero hk5) ?_
 refine s_as ?_
 refine zf (zd (zh (zg (zn ?_))))
 cases F5
 exact zk _ [] Tryz.results60
 refine zi (zd (zb ?_))
 refine zP yMix (by kernel_rfl) ?_
 refine s_mv ?_
 refine s_nc ?_
 refine s_fa yF145_0 ?_
 refine zu yA22 ?_
 refine s_mv ?_
 refine s_mv ?_
 refine s_nc ?_
 refine s_fa yF145_0 ?_
 refine zu yA22 ?_
 refine zC yU22 ?_
 obtain ⟨hk6,F4⟩:=zac F3
 refine s_rem (h0:=not_zero hk6) ?_
 obtain ⟨v7,V7,F5⟩:=zc F4
 refine zK rB V7 rfl yE22 ?_
 refine zu yA5 ?_
 refine s_int yU5 yU3 rfl ?_
 refine s_mul rfl ?_
 refine s_mv ?_
 refine s_nc ?_
 refine s_fa yF145_0 ?_
 refine zu yA22 ?_
 refine s_mv ?_
 refine s_mul rfl ?_
 refine zJ rfl ?_
 refine s_mv ?_
 refine s_nc ?_
 refine s_fa yF145_0 ?_
 refine zu yA22 ?_
 refine zC yU22 ?_
 obtain ⟨hk8,F6⟩:=zac F5
 refine s_rem (h0:=not_zero hk8) ?_
 obtain ⟨v9,V9,F7⟩:=zc F6
 refine zK rB V9 rfl yE22 ?_
 refine zu yA5 ?_
 refine s_int yU5 yU3 rfl ?_
 refine s_mul rfl ?_
 refine zJ rfl ?_
 refine s_mv ?_
 refine s_mul rfl ?_
 refine zJ rfl ?_
 refine s_mv ?_
 refine s_mv ?_
 refine s_nc ?_
 refine s_fa yF145_0 ?_
 refine zu yA22 ?_
 refine zC yU22 ?_
 obtain ⟨hk10,F8⟩:=zac F7
 refine s_quo (h0:=not_zero hk10) rfl ?_
 refine s_mul rfl ?_
 refine zJ rfl ?_
 refine s_as ?_
 refine zah (by kernel_rfl) ?_
 refine zd (zb (za ?_))
 refine s_mv ?_
 refine s_mv ?_
 refine s_quo rfl ?_
 refine s_xor rfl ?_
 refine s_as ?_
 refine zf (zd (zb (za ?_)))
 refine s_mv ?_
 refine s_mv ?_
 obtain ⟨hk11,F9⟩:=zac F8
 refine s_rem (h0:=not_zero hk11) ?_
 refine s_as ?_
 refine zf (zd (zh (zn ?_)))
 cases F9
 exact zk _ [] Tryz.results60
def m_spec_l1Skip_AC (fuel:Nat):Prop:=∀ (x1:ByteArray) (x2:Int) (r:Int),zfZ fuel x1 x2=some r→AC Tryz.prog 199 [.t (.sc (.str x1)),.t (.sc (.int .i64 x2))] noOb (.t (.sc (.int .i64 r))) noOb
theorem zgw (fuel:Nat):m_spec_l1Skip_AC fuel:=by
 intro x1 x2 r F0
 unfold zfZ at F0
 refine AC_i [.t (.sc (.int .i64 r))] Tryz.func199 rfl Tryz.ntmps199 ?_
 intro C hC
 refine zb (za ?_)
 refine s_as ?_
 refine zf (zd (zb (zl ?_)))
 refine zaP (β:=Int) [1,5,6,7,8,9,10,11,12,13,14,15,16] [] [] (fun a=>[(1,.t (.sc (.int .i64 a.2)))]) (fun a=>[]) (fun a=>a.1≤fuel∧zeZ a.1 x1 a.2=some r) (fuel,x2) ⟨Nat.le_refl _,F0⟩ ?_
 clear F0
 rintro ⟨fu,g1⟩ ⟨hl2,F1⟩
 dsimp only at hl2 F1 ⊢
 obtain _ | fu:=fu
 · rw [zeZ] at F1;cases F1
 rw [zeZ] at F1
 refine zb (zb (za ?_))
 refine s_mv ?_
 refine s_mv ?_
 refine zfH yU9 ?_
 refine s_lt ?_
 refine s_mv ?_
 refine zo _ 9 F1 ?_ ?_<;>intro C3 F2
 refine s_mv ?_
 refine s_mv ?_
 obtain ⟨v4,V4,F3⟩:=zc F2
 refine s_ixS V4 yU9 ?_
 refine s_eq ?_
 refine zA ?_
 refine zf (zd ?_)
 refine zm F3 ?_ ?_<;>intro C5 F4
 refine zi (zd (zl (za ?_)))
 refine s_mv ?_
 refine zJ rfl ?_
 refine s_as ?_
 refine zf (zW ?_)
 exact s_rn (fu,(w64 (g1+1))) ⟨by first | omega | (dsimp only;omega),F4⟩
 refine zz (zq (zp (zr (zd (zb (za ?_))))))
 refine s_mv ?_
 refine s_as ?_
 refine zf (zd (zh (zn ?_)))
 cases F4
 exact zk [] [] Tryz.results199
 iterate 4 refine r_no rfl ?_
 refine zy ?_
 refine zf (zd (zaZ rfl (zz (zq (zp (zr (zd (zb (za ?_)))))))))
 refine s_mv ?_
 refine s_as ?_
 refine zf (zd (zh (zn ?_)))
 cases F2
 exact zk [] [] Tryz.results199
def m_spec_l1Word_AC (fuel:Nat):Prop:=∀ (x1:ByteArray) (x2:Int) (r:Int),zi7 fuel x1 x2=some r→AC Tryz.prog 214 [.t (.sc (.str x1)),.t (.sc (.int .i64 x2))] noOb (.t (.sc (.int .i64 r))) noOb
theorem m_spec_l1Word_ok (fuel:Nat):m_spec_l1Word_AC fuel:=by
 intro x1 x2 r F0
 unfold zi7 at F0
 refine AC_i [.t (.sc (.int .i64 r))] Tryz.func214 rfl Tryz.ntmps214 ?_
 intro C hC
 refine zb (za ?_)
 refine s_as ?_
 refine zf (zd (zb (zl ?_)))
 refine zaP (β:=Int) [1,5,6,7,8,9,10,11,12,13,14,15,16,17,18,19,20,21,22,23,24,25,26,27,28,29,30,31,32,33,34] [] [] (fun a=>[(1,.t (.sc (.int .i64 a.2)))]) (fun a=>[]) (fun a=>a.1≤fuel∧zeY a.1 x1 a.2=some r) (fuel,x2) ⟨Nat.le_refl _,F0⟩ ?_
 clear F0
 rintro ⟨fu,g1⟩ ⟨hl2,F1⟩
 dsimp only at hl2 F1 ⊢
 obtain _ | fu:=fu
 · rw [zeY] at F1;cases F1
 rw [zeY] at F1
 refine zb (zb (za ?_))
 refine s_mv ?_
 refine s_mv ?_
 refine zfH yU9 ?_
 refine s_lt ?_
 refine s_mv ?_
 refine zo _ 9 F1 ?_ ?_<;>intro C3 F2
 refine s_mv ?_
 refine s_mv ?_
 obtain ⟨v4,V4,F3⟩:=zc F2
 refine s_ixS V4 yU9 ?_
 refine s_ne ?_
 refine zA ?_
 refine s_mv ?_
 refine zo _ 15 F3 ?_ ?_<;>intro C5 F4
 refine s_mv ?_
 refine s_mv ?_
 obtain ⟨v6,V6,F5⟩:=zc F4
 refine s_ixS V6 yU9 ?_
 refine s_ne ?_
 refine zA ?_
 refine s_mv ?_
 refine zo _ 21 F5 ?_ ?_<;>intro C7 F6
 refine s_mv ?_
 refine s_mv ?_
 obtain ⟨v8,V8,F7⟩:=zc F6
 refine s_ixS V8 yU9 ?_
 refine s_ne ?_
 refine zA ?_
 refine s_mv ?_
 refine zo _ 27 F7 ?_ ?_<;>intro C9 F8
 refine s_mv ?_
 refine s_mv ?_
 obtain ⟨v10,V10,F9⟩:=zc F8
 refine s_ixS V10 yU9 ?_
 refine s_ne ?_
 refine zA ?_
 refine zf (zd ?_)
 refine zm F9 ?_ ?_<;>intro C11 F10
 refine zi (zd (zl (za ?_)))
 refine s_mv ?_
 refine zJ rfl ?_
 refine s_as ?_
 refine zf (zW ?_)
 exact s_rn (fu,(w64 (g1+1))) ⟨by first | omega | (dsimp only;omega),F10⟩
 refine zz (zq (zp (zr (zd (zb (za ?_))))))
 refine s_mv ?_
 refine s_as ?_
 refine zf (zd (zh (zn ?_)))
 cases F10
 exact zk [] [] Tryz.results214
 iterate 4 refine r_no rfl ?_
 refine zy ?_
 refine zf (zd (zaZ rfl (zz (zq (zp (zr (zd (zb (za ?_)))))))))
 refine s_mv ?_
 refine s_as ?_
 refine zf (zd (zh (zn ?_)))
 cases F8
 exact zk [] [] Tryz.results214
 iterate 4 refine r_no rfl ?_
 refine zy ?_
 refine s_mv ?_
 iterate 4 refine r_no rfl ?_
 refine zy ?_
 refine zf (zd (zaZ rfl (zz (zq (zp (zr (zd (zb (za ?_)))))))))
 refine s_mv ?_
 refine s_as ?_
 refine zf (zd (zh (zn ?_)))
 cases F6
 exact zk [] [] Tryz.results214
 iterate 4 refine r_no rfl ?_
 refine zy ?_
 refine s_mv ?_
 iterate 4 refine r_no rfl ?_
 refine zy ?_
 refine s_mv ?_
 iterate 4 refine r_no rfl ?_
 refine zy ?_
 refine zf (zd (zaZ rfl (zz (zq (zp (zr (zd (zb (za ?_)))))))))
 refine s_mv ?_
 refine s_as ?_
 refine zf (zd (zh (zn ?_)))
 cases F4
 exact zk [] [] Tryz.results214
 iterate 4 refine r_no rfl ?_
 refine zy ?_
 refine s_mv ?_
 iterate 4 refine r_no rfl ?_
 refine zy ?_
 refine s_mv ?_
 iterate 4 refine r_no rfl ?_
 refine zy ?_
 refine s_mv ?_
 iterate 4 refine r_no rfl ?_
 refine zy ?_
 refine zf (zd (zaZ rfl (zz (zq (zp (zr (zd (zb (za ?_)))))))))
 refine s_mv ?_
 refine s_as ?_
 refine zf (zd (zh (zn ?_)))
 cases F2
 exact zk [] [] Tryz.results214
def m_spec_l15Num_AC (fuel:Nat):Prop:=∀ (x1:ByteArray) (r:(Int × Bool)),zhS fuel x1=some r→AC Tryz.prog 215 [.t (.sc (.str x1))] noOb (.tp [.t (.sc (.int .i64 r.1)),.t (.sc (.bool r.2))]) noOb
theorem m_spec_l15Num_ok (fuel:Nat):m_spec_l15Num_AC fuel:=by
 intro x1 r F0
 unfold zhS at F0
 refine AC_i [.t (.sc (.int .i64 r.1)),.t (.sc (.bool r.2))] Tryz.func215 rfl Tryz.ntmps215 ?_
 intro C hC
 refine zb (za ?_)
 refine s_as ?_
 refine s_as ?_
 refine zf (zd ?_)
 refine za2 (α:=Nat × Bool) [4,7,8,9,10,11,12,13,14] [] [] (fun a=>[(4,.t (.sc (.bool a.2)))]) (fun a=>[]) (fun a=>a.1≤fuel∧zfc a.1 x1 a.2=some r) ?_ ?_
 refine za ?_
 refine s_mv ?_
 refine zfH yU9 ?_
 refine s_gt ?_
 refine s_mv ?_
 refine zo _ 10 F0 ?_ ?_<;>intro C1 F1
 refine s_mv ?_
 obtain ⟨v2,V2,F2⟩:=zc F1
 refine s_ixS V2 yU9 ?_
 refine s_eq ?_
 refine zA ?_
 refine s_as ?_
 refine zf ?_
 exact s_jn (fuel,(decide (v2=45))) ⟨by first | omega | (dsimp only;omega),F2⟩
 iterate 3 refine r_no rfl ?_
 refine zy ?_
 refine s_as ?_
 refine zf ?_
 exact s_jn (fuel,false) ⟨by first | omega | (dsimp only;omega),F1⟩
 clear F0
 rintro ⟨fu,g3⟩ ⟨hl4,F1⟩
 dsimp only at hl4 F1 ⊢
 obtain _ | fu:=fu
 · rw [zfc] at F1;cases F1
 rw [zfc] at F1
 refine za2 (α:=Nat × ByteArray) [0,15,16,17] [] [] (fun a=>[(0,.t (.sc (.str a.2)))]) (fun a=>[]) (fun a=>a.1≤fu∧zfb a.1 g3 a.2=some r) ?_ ?_
 refine zb (za ?_)
 refine s_mv ?_
 refine zf (zd ?_)
 refine zm F1 ?_ ?_<;>intro C5 F2
 refine za ?_
 refine s_mv ?_
 obtain ⟨v6,V6,F3⟩:=zc F2
 refine s_ss10 V6 yU9 ?_
 refine s_as ?_
 refine zf ?_
 exact s_jn (fu,v6) ⟨by first | omega | (dsimp only;omega),F3⟩
 refine zi ?_
 exact s_jn (fu,x1) ⟨by first | omega | (dsimp only;omega),F2⟩
 clear F1
 rintro ⟨fu,g7⟩ ⟨hl8,F2⟩
 dsimp only at hl8 F2 ⊢
 obtain _ | fu:=fu
 · rw [zfb] at F2;cases F2
 rw [zfb] at F2
 refine za2 (α:=Nat) [2,3,18,19,20,21,22,23,24,25,26,27,28,29,30,31,32,33,34,35,36,37,38] [] [] (fun a=>[]) (fun a=>[]) (fun a=>a≤fu∧zfa a g3 g7 =some r) ?_ ?_
 refine zb (za ?_)
 refine s_mv ?_
 refine zfH yU9 ?_
 refine s_eq ?_
 refine s_mv ?_
 refine zo _ 21 F2 ?_ ?_<;>intro C9 F3
 iterate 3 refine r_no rfl ?_
 refine zA ?_
 refine s_mv ?_
 iterate 11 refine r_no rfl ?_
 refine zA ?_
 refine zf (zd (zT rfl (zb (za ?_))))
 refine s_as ?_
 refine s_as ?_
 refine zf (zd (zh (zex (zn ?_))))
 cases F3
 exact zk [] [] Tryz.results215
 refine s_mv ?_
 refine zfH yU9 ?_
 refine s_gt ?_
 refine zy ?_
 refine s_mv ?_
 refine zo _ 26 F3 ?_ ?_<;>intro C10 F4
 iterate 11 refine r_no rfl ?_
 refine zA ?_
 refine zf (zd (zT rfl (zb (za ?_))))
 refine s_as ?_
 refine s_as ?_
 refine zf (zd (zh (zex (zn ?_))))
 cases F4
 exact zk [] [] Tryz.results215
 refine s_mv ?_
 obtain ⟨v11,V11,F5⟩:=zc F4
 refine s_ixS V11 yU9 ?_
 refine s_eq ?_
 refine s_mv ?_
 refine zo _ 30 F5 ?_ ?_<;>intro C12 F6
 refine s_mv ?_
 refine zfH yU9 ?_
 refine s_gt ?_
 refine s_mv ?_
 refine zo _ 34 F6 ?_ ?_<;>intro C13 F7
 refine r_no rfl ?_
 refine zA ?_
 refine zA ?_
 refine zy ?_
 refine zf (zd (zT rfl (zb (za ?_))))
 refine s_as ?_
 refine s_as ?_
 refine zf (zd (zh (zex (zn ?_))))
 cases F7
 exact zk [] [] Tryz.results215
 refine s_mv ?_
 refine zy ?_
 refine zA ?_
 refine zy ?_
 refine zf (zd ?_)
 refine zm F7 ?_ ?_<;>intro C14 F8
 refine zb (za ?_)
 refine s_as ?_
 refine s_as ?_
 refine zf (zd (zh (zex (zn ?_))))
 cases F8
 exact zk [] [] Tryz.results215
 refine zi ?_
 exact s_jn (fu) ⟨by first | omega | (dsimp only;omega),F8⟩
 iterate 6 refine r_no rfl ?_
 refine zy ?_
 refine zy ?_
 refine zf (zd (zaZ rfl (zi ?_)))
 exact s_jn (fu) ⟨by first | omega | (dsimp only;omega),F6⟩
 clear F2
 rintro fu ⟨hl15,F3⟩
 obtain _ | fu:=fu
 · rw [zfa] at F3;cases F3
 rw [zfa] at F3
 refine zb (za ?_)
 refine s_as ?_
 refine zf (zd (zb (zb (za ?_))))
 refine s_as ?_
 refine zf (zd (zl ?_))
 refine zaP (β:=Int × Int) [2,3,5,6,39,40,41,42,43,44,45,46,47,48,49,50,51,52,53,54,55,56,57,58,59,60,61,62] [] [] (fun a=>[(5,.t (.sc (.int .i64 a.2.1))),(6,.t (.sc (.int .i64 a.2.2)))]) (fun a=>[]) (fun a=>a.1≤fu∧ze8 a.1 g3 g7 a.2.1 a.2.2=some r) (fu,0,0) ⟨Nat.le_refl _,F3⟩ ?_
 clear F3
 rintro ⟨fu,g16,g17⟩ ⟨hl18,F4⟩
 dsimp only at hl18 F4 ⊢
 obtain _ | fu:=fu
 · rw [ze8] at F4;cases F4
 rw [ze8] at F4
 refine zb (zb (za ?_))
 refine s_mv ?_
 refine s_mv ?_
 refine zfH yU9 ?_
 refine s_lt ?_
 refine zf (zd ?_)
 refine zm F4 ?_ ?_<;>intro C19 F5
 refine zi (zd (zb (zl (zb ?_))))
 refine za2 (α:=Nat × Bool) [45,46,47,48,49,50,51,52,53,54] [] [] (fun a=>[(54,.t (.sc (.bool a.2)))]) (fun a=>[]) (fun a=>a.1≤fu∧ze9 a.1 g3 g7 g16 g17 a.2=some r) ?_ ?_
 refine za ?_
 refine s_mv ?_
 refine s_mv ?_
 obtain ⟨v20,V20,F6⟩:=zc F5
 refine s_ixS V20 yU9 ?_
 refine s_lt ?_
 refine s_mv ?_
 refine zo _ 49 F6 ?_ ?_<;>intro C21 F7
 iterate 4 refine r_no rfl ?_
 refine zA ?_
 refine zf ?_
 exact s_jn (fu,true) ⟨by first | omega | (dsimp only;omega),F7⟩
 refine s_mv ?_
 refine s_mv ?_
 obtain ⟨v22,V22,F8⟩:=zc F7
 refine s_ixS V22 yU9 ?_
 refine s_gt ?_
 refine zy ?_
 refine zf ?_
 exact s_jn (fu,(decide (57 < v22))) ⟨by first | omega | (dsimp only;omega),F8⟩
 clear F5
 rintro ⟨fu,g23⟩ ⟨hl24,F6⟩
 dsimp only at hl24 F6 ⊢
 obtain _ | fu:=fu
 · rw [ze9] at F6;cases F6
 rw [ze9] at F6
 refine zm F6 ?_ ?_<;>intro C25 F7
 refine zb (za ?_)
 refine s_as ?_
 refine s_as ?_
 refine zf (zd (zh (zg (zj (zg (zw (zj (zg (zn ?_)))))))))
 cases F7
 exact zk [] [] Tryz.results215
 refine zi (zd (za ?_))
 refine s_mv ?_
 refine s_mul rfl ?_
 refine s_mv ?_
 refine s_mv ?_
 obtain ⟨v26,V26,F8⟩:=zc F7
 refine s_ixS V26 yU9 ?_
 refine zih rfl ?_
 refine s_int yU5 yU3 rfl ?_
 refine zJ rfl ?_
 refine s_as ?_
 refine zf (zW (zd (za ?_)))
 refine s_mv ?_
 refine zJ rfl ?_
 refine s_as ?_
 refine zf ?_
 exact s_rn (fu,(w64 ((w64 (g16*10))+(w64 (w8 (v26-48))))),(w64 (g17+1))) ⟨by first | omega | (dsimp only;omega),F8⟩
 refine zz (zq (zp (zr (zd (zb (zb (za ?_)))))))
 refine s_mv ?_
 refine zf (zd ?_)
 refine zm F5 ?_ ?_<;>intro C27 F6
 refine za ?_
 refine s_mv ?_
 refine s_neg rfl ?_
 refine s_as ?_
 refine zf (zd (zb (za ?_)))
 refine s_mv ?_
 refine s_as ?_
 refine s_as ?_
 refine zf (zd (zh (zn ?_)))
 cases F6
 exact zk [] [] Tryz.results215
 refine zi (zd (zb (za ?_)))
 refine s_mv ?_
 refine s_as ?_
 refine s_as ?_
 refine zf (zd (zh (zn ?_)))
 cases F6
 exact zk [] [] Tryz.results215
def m_spec_l15Cut_AC (fuel:Nat):Prop:=∀ (x1:ByteArray) (x2:Int) (r:(List ByteArray)),zja fuel x1 x2=some r→AC Tryz.prog 220 [.t (.sc (.str x1)),.t (.sc (.int .u8 x2))] noOb (.t (.sl (r.map rS))) noOb
theorem m_spec_l15Cut_ok (fuel:Nat):m_spec_l15Cut_AC fuel:=by
 intro x1 x2 r F0
 unfold zja at F0
 refine AC_i [.t (.sl (r.map rS))] Tryz.func220 rfl Tryz.ntmps220 ?_
 intro C hC
 refine zb (za ?_)
 refine s_as ?_
 refine zf (zd (zb (za ?_)))
 refine s_bs rS ([]:List ByteArray) yP36 yR9 ?_
 refine s_as ?_
 refine zf (zd (zb (za ?_)))
 refine s_as ?_
 refine zf (zd (zb (zb (za ?_))))
 refine s_as ?_
 refine zf (zd (zl ?_))
 refine zeI 5 8 5020 (by conv=>lhs;whnf) (by conv=>lhs;whnf) rfl ?_
 refine zak [5,6,7,9,10,11,12,13,14,15,16,17,18,19,20,21,22,23,24,25,26,27,28,29,30,31,32,33,34] [5020] [31,32] [5020] (fun a:Nat × (List ByteArray) × Int × Int=>a.1) (fun a:Nat × (List ByteArray) × Int × Int=>[(5,.ar 5020),(6,.t (.sc (.int .i64 a.2.2.1))),(7,.t (.sc (.int .i64 a.2.2.2)))]) (fun a:Nat × (List ByteArray) × Int × Int=>[(5020,.arr (a.2.1.map rS) 9 true)]) (fun a:Nat × (List ByteArray) × Int × Int=>a.1≤fuel∧zd7 a.1 x1 x2 a.2.1 a.2.2.1 a.2.2.2=some r) (fuel,([]:List ByteArray),0,0) ⟨Nat.le_refl _,F0⟩ (by rfl) (by rfl) (fun _=>rfl) (zI (by conv=>lhs;whnf) (by rfl) (zI (by conv=>lhs;whnf) (by rfl) (zI (by conv=>lhs;whnf) (by rfl) zaX))) (zL (by conv=>lhs;whnf) (by rfl) zaK) (zbZ hC rfl) (by repeat (first | exact z6 rfl | refine zal rfl ?_ | refine zQ rfl ?_)) (by repeat (first | exact zay | exact zad rfl | refine zam rfl ?_ | refine zR rfl ?_)) ?_
 clear F0
 rintro ⟨fu,g1,g2,g3⟩ ⟨hl4,F1⟩
 dsimp only at hl4 F1 ⊢
 obtain _ | fu:=fu
 · rw [zd7] at F1;cases F1
 rw [zd7] at F1
 refine zb (zb (za ?_))
 refine s_mv ?_
 refine s_mv ?_
 refine zfH yU9 ?_
 refine s_le ?_
 refine zf (zd ?_)
 refine zm F1 ?_ ?_<;>intro C5 F2
 refine zi (zd (zb (zl ?_)))
 refine za2 (α:=Nat × Bool) [15,16,17,18,19,20,21,22,23,24,25] [] [] (fun a=>[(25,.t (.sc (.bool a.2)))]) (fun a=>[]) (fun a=>a.1≤fu∧zfd a.1 x1 x2 g1 g2 g3 a.2=some r) ?_ ?_
 refine za ?_
 refine s_mv ?_
 refine s_mv ?_
 refine zfH yU9 ?_
 refine s_eq ?_
 refine s_mv ?_
 refine zo _ 19 F2 ?_ ?_<;>intro C6 F3
 iterate 5 refine r_no rfl ?_
 refine zA ?_
 refine zf ?_
 exact s_jn (fu,true) ⟨by first | omega | (dsimp only;omega),F3⟩
 refine s_mv ?_
 refine s_mv ?_
 obtain ⟨v7,V7,F4⟩:=zc F3
 refine s_ixS V7 yU9 ?_
 refine s_mv ?_
 refine s_eq ?_
 refine zy ?_
 refine zf ?_
 exact s_jn (fu,(decide (v7=x2))) ⟨by first | omega | (dsimp only;omega),F4⟩
 clear F2
 rintro ⟨fu,g8⟩ ⟨hl9,F3⟩
 dsimp only at hl9 F3 ⊢
 obtain _ | fu:=fu
 · rw [zfd] at F3;cases F3
 rw [zfd] at F3
 refine zm F3 ?_ ?_<;>intro C10 F4
 refine zb (za ?_)
 iterate 4 refine s_mv ?_
 obtain ⟨v11,V11,F5⟩:=zc F4
 refine s_ss11 V11 yU9 ?_
 refine s_bs rS [v11] yP36 yR9 ?_
 obtain ⟨hk12,F6⟩:=zac F5
 refine zel rS (fun _=>rfl) hk12 yP36 ?_
 refine s_as ?_
 refine zf (zd (za ?_))
 refine s_mv ?_
 refine zJ rfl ?_
 refine s_as ?_
 refine zf (zW (zd (za ?_)))
 refine s_mv ?_
 refine zJ rfl ?_
 refine s_as ?_
 refine zf ?_
 exact s_rn (fu,(g1++[v11]),(w64 (g3+1)),(w64 (g3+1))) ⟨by first | omega | (dsimp only;omega),F6⟩ [(5020,32)]
 refine zi (zW (zd (za ?_)))
 refine s_mv ?_
 refine zJ rfl ?_
 refine s_as ?_
 refine zf ?_
 exact s_rn (fu,g1,g2,(w64 (g3+1))) ⟨by first | omega | (dsimp only;omega),F4⟩
 refine zz (zq (zp (zr (zd (zb (za ?_))))))
 refine s_mv ?_
 refine s_as ?_
 refine zf (zd (zh (zn ?_)))
 cases F2
 exact zk [] [5020] Tryz.results220
def m_spec_l1Sets_AC (fuel:Nat):Prop:=∀ (x1:ByteArray) (x2:Int) (r:((List Int) × Int)),zi8 fuel x1 x2=some r→AC Tryz.prog 216 [.t (.sc (.str x1)),.t (.sc (.int .i64 x2))] noOb (.tp [.t (.sl (r.1.map rI)),.t (.sc (.int .i64 r.2))]) noOb
theorem m_spec_l1Sets_ok (fuel:Nat):m_spec_l1Sets_AC fuel:=by
 intro x1 x2 r F0
 unfold zi8 at F0
 refine AC_i [.t (.sl (r.1.map rI)),.t (.sc (.int .i64 r.2))] Tryz.func216 rfl Tryz.ntmps216 ?_
 intro C hC
 refine zb (za ?_)
 refine s_as ?_
 refine s_as ?_
 refine zf (zd (zb (za ?_)))
 refine s_bs rI ([]:List Int) yP24 yR3 ?_
 refine s_as ?_
 refine zf (zd (zb ?_))
 refine za2 (α:=Nat × Bool) [13,14,15,16,17,18,19,20,21,22] [] [] (fun a=>[(22,.t (.sc (.bool a.2)))]) (fun a=>[]) (fun a=>a.1≤fuel∧ze4 a.1 x1 x2 a.2=some r) ?_ ?_
 refine za ?_
 refine s_mv ?_
 refine s_mv ?_
 refine zfH yU9 ?_
 refine s_ge ?_
 refine s_mv ?_
 refine zo _ 17 F0 ?_ ?_<;>intro C1 F1
 iterate 4 refine r_no rfl ?_
 refine zA ?_
 refine zf ?_
 exact s_jn (fuel,true) ⟨by first | omega | (dsimp only;omega),F1⟩
 refine s_mv ?_
 refine s_mv ?_
 obtain ⟨v2,V2,F2⟩:=zc F1
 refine s_ixS V2 yU9 ?_
 refine s_ne ?_
 refine zy ?_
 refine zf ?_
 exact s_jn (fuel,(decide (v2≠123))) ⟨by first | omega | (dsimp only;omega),F2⟩
 clear F0
 rintro ⟨fu,g3⟩ ⟨hl4,F1⟩
 dsimp only at hl4 F1 ⊢
 obtain _ | fu:=fu
 · rw [ze4] at F1;cases F1
 rw [ze4] at F1
 refine zm F1 ?_ ?_<;>intro C5 F2
 refine zb (za ?_)
 refine s_mv ?_
 refine s_mv ?_
 refine s_as ?_
 refine s_as ?_
 refine zf (zd (zh (zg (zn ?_))))
 cases F2
 exact zk [] [12] Tryz.results216
 refine zi (zd (zb (za ?_)))
 refine s_mv ?_
 refine s_as ?_
 refine zf (zd ?_)
 refine za2 (α:=Nat × Int) [7,26,27,28,29,30,31,32,33,34,35,36,37] [] [] (fun a=>[(7,.t (.sc (.int .i64 a.2)))]) (fun a=>[]) (fun a=>a.1≤fu∧ze3 a.1 x1 x2 a.2=some r) ?_ ?_
 refine zl ?_
 refine zaP (β:=Int) [7,26,27,28,29,30,31,32,33,34,35,36,37] [] [] (fun a=>[(7,.t (.sc (.int .i64 a.2)))]) (fun a=>[]) (fun a=>a.1≤fu∧ze1 a.1 x1 x2 a.2=some r) (fu,x2) ⟨Nat.le_refl _,F2⟩ ?_
 clear F2
 rintro ⟨fu,g6⟩ ⟨hl7,F3⟩
 dsimp only at hl7 F3 ⊢
 obtain _ | fu:=fu
 · rw [ze1] at F3;cases F3
 rw [ze1] at F3
 refine zb (zb (za ?_))
 refine s_mv ?_
 refine s_mv ?_
 refine zfH yU9 ?_
 refine s_lt ?_
 refine s_mv ?_
 refine zo _ 30 F3 ?_ ?_<;>intro C8 F4
 refine s_mv ?_
 refine s_mv ?_
 obtain ⟨v9,V9,F5⟩:=zc F4
 refine s_ixS V9 yU9 ?_
 refine s_ne ?_
 refine zA ?_
 refine zf (zd ?_)
 refine zm F5 ?_ ?_<;>intro C10 F6
 refine zi (zd (zl (za ?_)))
 refine s_mv ?_
 refine zJ rfl ?_
 refine s_as ?_
 refine zf (zW ?_)
 exact s_rn (fu,(w64 (g6+1))) ⟨by first | omega | (dsimp only;omega),F6⟩
 refine zz (zq (zp (zr ?_)))
 exact s_jn (fu,g6) ⟨by first | omega | (dsimp only;omega),F6⟩
 iterate 4 refine r_no rfl ?_
 refine zy ?_
 refine zf (zd (zaZ rfl (zz (zq (zp (zr ?_))))))
 exact s_jn (fu,g6) ⟨by first | omega | (dsimp only;omega),F4⟩
 clear F2
 rintro ⟨fu,g11⟩ ⟨hl12,F3⟩
 dsimp only at hl12 F3 ⊢
 obtain _ | fu:=fu
 · rw [ze3] at F3;cases F3
 rw [ze3] at F3
 refine zb (zb (za ?_))
 refine s_mv ?_
 refine s_mv ?_
 refine zfH yU9 ?_
 refine s_eq ?_
 refine zf (zd ?_)
 refine zm F3 ?_ ?_<;>intro C13 F4
 refine zb (za ?_)
 refine s_mv ?_
 refine s_as ?_
 refine s_as ?_
 refine zf (zd (zh (zg (zn ?_))))
 cases F4
 exact zk [] [12] Tryz.results216
 refine zi (zd (zb (za ?_)))
 refine s_mv ?_
 refine s_mv ?_
 refine zJ rfl ?_
 refine s_mv ?_
 obtain ⟨v14,V14,F5⟩:=zc F4
 refine s_ss11 V14 yU9 ?_
 obtain ⟨v15,V15,F6⟩:=zc F5
 refine zv [] (m_spec_l15Cut_ok fu _ _ _ V15) ?_
 refine s_as ?_
 refine zf (zd (zb (zb (za ?_))))
 refine s_as ?_
 refine zf (zd (zl ?_))
 refine zeI 6 12 5080 (by conv=>lhs;whnf) (by conv=>lhs;whnf) rfl ?_
 refine zak [4,5,6,9,10,11,49,50,51,52,53,54,55,56,57,58,59,60,61,62,63,64,65,66,67,68,69,70,71,72,73] [5080] [72,73] [5080] (fun a:Nat × (List Int) × Int=>a.1) (fun a:Nat × (List Int) × Int=>[(6,.ar 5080),(9,.t (.sc (.int .i64 a.2.2)))]) (fun a:Nat × (List Int) × Int=>[(5080,.arr (a.2.1.map rI) 3 true)]) (fun a:Nat × (List Int) × Int=>a.1≤fu∧ze0 a.1 g11 v15 a.2.1 a.2.2=some r) (fu,([]:List Int),0) ⟨Nat.le_refl _,F6⟩ (by rfl) (by rfl) (fun _=>rfl) (zI (by conv=>lhs;whnf) (by rfl) (zI (by conv=>lhs;whnf) (by rfl) zaX)) (zL (by conv=>lhs;whnf) (by rfl) zaK) (zbZ hC rfl) (by repeat (first | exact z6 rfl | refine zal rfl ?_ | refine zQ rfl ?_)) (by repeat (first | exact zay | exact zad rfl | refine zam rfl ?_ | refine zR rfl ?_)) ?_
 clear F6
 rintro ⟨fu,g16,g17⟩ ⟨hl18,F7⟩
 dsimp only at hl18 F7 ⊢
 obtain _ | fu:=fu
 · rw [ze0] at F7;cases F7
 rw [ze0] at F7
 refine zb ?_
 refine za2 (α:=Nat × Bool) [49,50,51,52,53,54,55,56] [] [] (fun a=>[(56,.t (.sc (.bool a.2)))]) (fun a=>[]) (fun a=>a.1≤fu∧ze2 a.1 g11 v15 g16 g17 a.2=some r) ?_ ?_
 refine za ?_
 refine s_mv ?_
 refine s_mv ?_
 refine zC yU36 ?_
 refine s_lt ?_
 refine s_mv ?_
 refine zo _ 53 F7 ?_ ?_<;>intro C19 F8
 refine s_mv ?_
 refine s_le ?_
 refine zA ?_
 refine zf ?_
 exact s_jn (fu,(decide (g17≤24))) ⟨by first | omega | (dsimp only;omega),F8⟩
 refine r_no rfl (r_no rfl ?_)
 refine zy ?_
 refine zf ?_
 exact s_jn (fu,false) ⟨by first | omega | (dsimp only;omega),F8⟩
 clear F7
 rintro ⟨fu,g20⟩ ⟨hl21,F8⟩
 dsimp only at hl21 F8 ⊢
 obtain _ | fu:=fu
 · rw [ze2] at F8;cases F8
 rw [ze2] at F8
 refine zm F8 ?_ ?_<;>intro C22 F9
 refine zi (zd (zb (zl (zb (za ?_)))))
 refine s_mv ?_
 refine s_mv ?_
 obtain ⟨v23,V23,F10⟩:=zc F9
 refine zK rS V23 rfl yE36 ?_
 refine zu yA9 ?_
 obtain ⟨v24,V24,F11⟩:=zc F10
 refine zv [] (m_spec_l15Num_ok fu _ _ V24) ?_
 refine s_mv ?_
 refine za4 ?_
 refine za4 ?_
 refine s_as ?_
 refine s_as ?_
 refine zf (zd (zb (zb (za ?_))))
 refine s_mv ?_
 refine zaG ?_
 refine zf (zd ?_)
 refine zm F11 ?_ ?_<;>intro C25 F12
 refine zb (za ?_)
 refine s_mv ?_
 refine s_as ?_
 refine s_as ?_
 refine zf (zd (zh (zg (zj (zg (zw (zj (zg (zn ?_)))))))))
 cases F12
 exact zk [] [5080] Tryz.results216
 refine zi (zd (za ?_))
 refine s_mv ?_
 refine s_mv ?_
 refine s_bs rI [v24.1] yP24 yR3 ?_
 obtain ⟨hk26,F13⟩:=zac F12
 refine zel rI (fun _=>rfl) hk26 yP24 ?_
 refine s_as ?_
 refine zf (zW (zd (za ?_)))
 refine s_mv ?_
 refine zJ rfl ?_
 refine s_as ?_
 refine zf ?_
 exact s_rn (fu,(g16++[v24.1]),(w64 (g17+1))) ⟨by first | omega | (dsimp only;omega),F13⟩ [(5080,73)]
 refine zz (zq (zp (zr (zd (zb (za ?_))))))
 refine s_mv ?_
 refine s_mv ?_
 refine zJ rfl ?_
 refine s_as ?_
 refine s_as ?_
 refine zf (zd (zh (zn ?_)))
 cases F9
 exact zk [] [5080] Tryz.results216
def m_spec_l1Atom_AC (fuel:Nat):Prop:=∀ (x1:ByteArray) (x2:Int) (r:(Form × Int)),zi9 fuel x1 x2=some r→AC Tryz.prog 207 [.t (.sc (.str x1)),.t (.sc (.int .i64 x2))] noOb (.tp [.ag [.t (.sc (.int .i64 r.1.kind)),.t (.sc (.str r.1.name)),.t (.sc (.int .i64 r.1.n)),.t (.sl (r.1.scopes.map rI)),.t (.sl (r.1.kids.map Form.row))],.t (.sc (.int .i64 r.2))]) noOb
theorem m_spec_l1Atom_ok (fuel:Nat):m_spec_l1Atom_AC fuel:=by
 intro x1 x2 r F0
 unfold zi9 at F0
 refine AC_i [.ag [.t (.sc (.int .i64 r.1.kind)),.t (.sc (.str r.1.name)),.t (.sc (.int .i64 r.1.n)),.t (.sl (r.1.scopes.map rI)),.t (.sl (r.1.kids.map Form.row))],.t (.sc (.int .i64 r.2))] Tryz.func207 rfl Tryz.ntmps207 ?_
 intro C hC
 refine zb (za ?_)
 refine zU yZ27 ?_
 refine s_as ?_
 refine zf (zd (zb (za ?_)))
 refine s_mv ?_
 refine s_mv ?_
 obtain ⟨v1,V1,F1⟩:=zc F0
 refine zv [] (m_spec_l1Word_ok fuel _ _ _ V1) ?_
 refine s_as ?_
 refine zf (zd (zb (za ?_)))
 iterate 3 refine s_mv ?_
 obtain ⟨v2,V2,F2⟩:=zc F1
 refine s_ss11 V2 yU9 ?_
 refine s_as ?_
 refine zf (zd (zb (za ?_)))
 refine s_mv ?_
 obtain ⟨v3,V3,F3⟩:=zc F2
 refine zv [] (m_spec_l15Num_ok fuel _ _ V3) ?_
 refine s_mv ?_
 refine za4 ?_
 refine za4 ?_
 refine s_as ?_
 refine s_as ?_
 refine zf (zd (zb (zb (za ?_))))
 refine s_mv ?_
 refine zf (zd ?_)
 refine zm F3 ?_ ?_<;>intro C4 F4
 refine zb (za ?_)
 refine s_mv ?_
 refine zgE yZ27 yL27 ?_
 refine s_mv ?_
 refine zab yS27 ?_
 refine s_as ?_
 refine zf (zd (zh (zg (zn ?_))))
 cases F4
 exact zZ [] [] (by rw [Tryz.results207];exact (zas (by conv=>lhs;whnf) (by conv=>lhs;whnf) yA27 yS27 rfl (zaj (by conv=>lhs;whnf) zae)))
 refine zi (zd (zb (zb (za ?_))))
 refine s_mv ?_
 refine zhv ?_
 refine zf (zd ?_)
 refine zm F4 ?_ ?_<;>intro C5 F5
 refine zb (za ?_)
 refine zgE yZ27 yL27 ?_
 refine zab yS27 ?_
 refine s_as ?_
 refine zf (zd (zh (zg (zn ?_))))
 cases F5
 exact zZ [] [] (by rw [Tryz.results207];exact (zas (by conv=>lhs;whnf) (by conv=>lhs;whnf) yA27 yS27 rfl (zaj (by conv=>lhs;whnf) zae)))
 refine zi (zd (zb (za ?_)))
 refine s_mv ?_
 refine s_mv ?_
 obtain ⟨v6,V6,F6⟩:=zc F5
 refine zv [] (m_spec_l1Sets_ok fuel _ _ _ V6) ?_
 refine s_mv ?_
 refine za4 ?_
 refine za4 ?_
 refine s_as ?_
 refine s_as ?_
 refine zf (zd (zb (za ?_)))
 refine s_mv ?_
 refine s_mv ?_
 refine zgE yZ27 yL27 ?_
 refine s_mv ?_
 refine zab yS27 ?_
 refine s_as ?_
 refine zf (zd (zh (zn ?_)))
 cases F6
 exact zZ [] [] (by rw [Tryz.results207];exact (zas (by conv=>lhs;whnf) (by conv=>lhs;whnf) yA27 yS27 rfl (zaj (by conv=>lhs;whnf) zae)))
def zgy (fuel:Nat):Prop:=∀ (x1:ByteArray) (x2:Int) (x3:Int) (r:(Form × Int)),zgZ fuel x1 x2 x3=some r→AC Tryz.prog 198 [.t (.sc (.str x1)),.t (.sc (.int .i64 x2)),.t (.sc (.int .i64 x3))] noOb (.tp [.ag [.t (.sc (.int .i64 r.1.kind)),.t (.sc (.str r.1.name)),.t (.sc (.int .i64 r.1.n)),.t (.sl (r.1.scopes.map rI)),.t (.sl (r.1.kids.map Form.row))],.t (.sc (.int .i64 r.2))]) noOb
theorem m_spec_l1Read_st (fu:Nat) (ih_m_spec_l1Read:∀ k,k≤fu→zgy k):zgy (fu+1):=by
 intro x1 x2 x3 r F0
 rw [zgZ] at F0
 refine AC_i [.ag [.t (.sc (.int .i64 r.1.kind)),.t (.sc (.str r.1.name)),.t (.sc (.int .i64 r.1.n)),.t (.sl (r.1.scopes.map rI)),.t (.sl (r.1.kids.map Form.row))],.t (.sc (.int .i64 r.2))] Tryz.func198 rfl Tryz.ntmps198 ?_
 intro C hC
 refine zb (za ?_)
 refine zU yZ27 ?_
 refine s_as ?_
 refine zf (zd (zb (za ?_)))
 refine s_mv ?_
 refine s_mv ?_
 obtain ⟨v1,V1,F1⟩:=zc F0
 refine zv [] (zgw fu _ _ _ V1) ?_
 refine s_as ?_
 refine zf (zd (zb ?_))
 refine za2 (α:=Nat × Bool) [14,15,16,17,18,19,20,21] [] [] (fun a=>[(21,.t (.sc (.bool a.2)))]) (fun a=>[]) (fun a=>a.1≤fu∧ze7 a.1 x1 x3 v1 a.2=some r) ?_ ?_
 refine za ?_
 refine s_mv ?_
 refine s_mv ?_
 refine zfH yU9 ?_
 refine s_ge ?_
 refine s_mv ?_
 refine zo _ 18 F1 ?_ ?_<;>intro C2 F2
 refine r_no rfl (r_no rfl ?_)
 refine zA ?_
 refine zf ?_
 exact s_jn (fu,true) ⟨by first | omega | (dsimp only;omega),F2⟩
 refine s_mv ?_
 refine s_eq ?_
 refine zy ?_
 refine zf ?_
 exact s_jn (fu,(decide (x3=0))) ⟨by first | omega | (dsimp only;omega),F2⟩
 clear F1
 rintro ⟨fu,g3⟩ ⟨hl4,F2⟩
 dsimp only at hl4 F2 ⊢
 obtain _ | fu:=fu
 · rw [ze7] at F2;cases F2
 rw [ze7] at F2
 refine zm F2 ?_ ?_<;>intro C5 F3
 refine zb (za ?_)
 refine zgE yZ27 yL27 ?_
 refine zab yS27 ?_
 refine s_as ?_
 refine zf (zd (zh (zg (zn ?_))))
 cases F3
 exact zZ [] [] (by rw [Tryz.results198];exact (zas (by conv=>lhs;whnf) (by conv=>lhs;whnf) yA27 yS27 rfl (zaj (by conv=>lhs;whnf) zae)))
 refine zi (zd (zb (zb (za ?_))))
 refine s_mv ?_
 refine s_mv ?_
 obtain ⟨v6,V6,F4⟩:=zc F3
 refine s_ixS V6 yU9 ?_
 refine s_ne ?_
 refine zf (zd ?_)
 refine zm F4 ?_ ?_<;>intro C7 F5
 refine zb (za ?_)
 refine s_mv ?_
 refine s_mv ?_
 obtain ⟨v8,V8,F6⟩:=zc F5
 refine zv [] (m_spec_l1Atom_ok fu _ _ _ V8) ?_
 refine za4 ?_
 refine za4 ?_
 refine zab yS27 ?_
 refine s_as ?_
 refine zf (zd (zh (zg (zn ?_))))
 cases F6
 exact zZ [] [] (by rw [Tryz.results198];exact (zas (by conv=>lhs;whnf) (by conv=>lhs;whnf) yA27 yS27 rfl (zaj (by conv=>lhs;whnf) zae)))
 refine zi (zd (zb (za ?_)))
 refine zgE yZ27 yL27 ?_
 refine zU yZ27 ?_
 refine zab yS27 ?_
 refine zf (zd (zb (za ?_)))
 refine s_mv ?_
 refine s_mv ?_
 refine zJ rfl ?_
 obtain ⟨v9,V9,F6⟩:=zc F5
 refine zv [] (zgw fu _ _ _ V9) ?_
 refine s_as ?_
 refine zf (zd ?_)
 refine za2 (α:=Nat × Int × (List Form)) [1,7,9,10,37,38,39,40,41,42,43,44,45,46,47,48,49,50,51,52,53,54,55,56,57,58,59,60,61,62,63,64,65,66,67,68,69,70,71,72] [8,5060] [] (fun a=>[(1,.t (.sc (.int .i64 a.2.1)))]) (fun a=>[(8,.box [.t (.sc (.int .i64 3)),.t (.sc (.str (⟨#[]⟩:ByteArray))),.t (.sc (.int .i64 0)),.nl,.ar 5060]),(5060,.arr (a.2.2.map Form.row) 27 true)]) (fun a=>a.1≤fu∧zgx a.1 x1 a.2.1 a.2.2=some r) ?_ ?_
 refine zl ?_
 refine awp_ownB 8 5060 27 [.t (.sc (.int .i64 3)),.t (.sc (.str (⟨#[]⟩:ByteArray))),.t (.sc (.int .i64 0)),.nl,.ar 5060] yI27.choose_spec ?_
 refine zak [1,7,9,10,37,38,39,40,41,42,43,44,45,46,47,48,49,50,51,52,53,54,55,56,57,58,59,60,61,62,63,64,65,66,67,68,69,70,71,72] [8,5060] [9,67,68] [5060] (fun a:Nat × Int × (List Form)=>a.1) (fun a:Nat × Int × (List Form)=>[(1,.t (.sc (.int .i64 a.2.1)))]) (fun a:Nat × Int × (List Form)=>[(8,.box [.t (.sc (.int .i64 3)),.t (.sc (.str (⟨#[]⟩:ByteArray))),.t (.sc (.int .i64 0)),.nl,.ar 5060]),(5060,.arr (a.2.2.map Form.row) 27 true)]) (fun a:Nat × Int × (List Form)=>a.1≤fu∧ze5 a.1 x1 x3 a.2.1 a.2.2=some r) (fu,v9,([]:List Form)) ⟨Nat.le_refl _,F6⟩ (by rfl) (by rfl) (fun _=>rfl) (zI (by conv=>lhs;whnf) (by rfl) zaX) (zL (by conv=>lhs;whnf) (by rfl) (zL (by conv=>lhs;whnf) (by rfl) zaK)) (zbZ hC rfl) (by repeat (first | exact z6 rfl | refine zal rfl ?_ | refine zQ rfl ?_)) (by repeat (first | exact zay | exact zad rfl | refine zam rfl ?_ | refine zR rfl ?_)) ?_
 clear F6
 rintro ⟨fu,g10,g11⟩ ⟨hl12,F7⟩
 dsimp only at hl12 F7 ⊢
 obtain _ | fu:=fu
 · rw [ze5] at F7;cases F7
 rw [ze5] at F7
 refine zb ?_
 refine za2 (α:=Nat × Bool) [37,38,39,40,41,42,43,44,45,46,47,48,49,50,51,52] [] [] (fun a=>[(52,.t (.sc (.bool a.2)))]) (fun a=>[]) (fun a=>a.1≤fu∧zd5 a.1 x1 x3 g10 g11 a.2=some r) ?_ ?_
 refine za ?_
 refine s_mv ?_
 refine s_mv ?_
 refine zfH yU9 ?_
 refine s_lt ?_
 refine s_mv ?_
 refine zo _ 41 F7 ?_ ?_<;>intro C13 F8
 refine s_mv ?_
 refine s_mv ?_
 obtain ⟨v14,V14,F9⟩:=zc F8
 refine s_ixS V14 yU9 ?_
 refine s_ne ?_
 refine zA ?_
 refine s_mv ?_
 refine zo _ 47 F9 ?_ ?_<;>intro C15 F10
 refine s_fa zF ?_
 refine zu yA25 ?_
 refine zhc yU25 ?_
 refine s_lt ?_
 refine zA ?_
 refine zf ?_
 exact s_jn (fu,(decide ((g11.length:Int) < 400))) ⟨by first | omega | (dsimp only;omega),F10⟩
 iterate 4 refine r_no rfl ?_
 refine zy ?_
 refine zf ?_
 exact s_jn (fu,false) ⟨by first | omega | (dsimp only;omega),F10⟩
 iterate 4 refine r_no rfl ?_
 refine zy ?_
 refine s_mv ?_
 iterate 4 refine r_no rfl ?_
 refine zy ?_
 refine zf ?_
 exact s_jn (fu,false) ⟨by first | omega | (dsimp only;omega),F8⟩
 clear F7
 rintro ⟨fu,g16⟩ ⟨hl17,F8⟩
 dsimp only at hl17 F8 ⊢
 obtain _ | fu:=fu
 · rw [zd5] at F8;cases F8
 rw [zd5] at F8
 refine zm F8 ?_ ?_<;>intro C18 F9
 refine zi (zd (zl (zb (za ?_))))
 iterate 3 refine s_mv ?_
 refine zih rfl ?_
 obtain ⟨v19,V19,F10⟩:=zc F9
 refine zv [] (ih_m_spec_l1Read fu (by omega) _ _ _ _ V19) ?_
 refine s_mv ?_
 refine za4 ?_
 refine za4 ?_
 refine zU yZ27 ?_
 refine zab yS27 ?_
 refine s_as ?_
 refine zf (zd (zb (zb (za ?_))))
 refine s_mv ?_
 refine s_lt ?_
 refine zf (zd ?_)
 refine zm F10 ?_ ?_<;>intro C20 F11
 refine zb (za ?_)
 refine zG yA27 yS27 ?_
 refine zab yS27 ?_
 refine s_as ?_
 refine zf (zd (zh (zg (zj (zw (zj (zex (zn ?_))))))))
 cases F11
 exact zZ [] [5060] (by rw [Tryz.results198];exact (zas (by conv=>lhs;whnf) (by conv=>lhs;whnf) yA27 yS27 rfl (zaj (by conv=>lhs;whnf) zae)))
 refine zi (zd (zb (za ?_)))
 refine s_fa zF ?_
 refine zu yA25 ?_
 refine zG yA27 yS27 ?_
 refine s_bs Form.row [v19.1] yP25 yR27 ?_
 obtain ⟨hk21,F12⟩:=zac F11
 refine zel Form.row (fun y=>Form.row_len y) hk21 yP25 ?_
 refine s_fa zF ?_
 refine zii yS25 ?_
 refine zf (zd (za ?_))
 refine s_mv ?_
 refine s_mv ?_
 obtain ⟨v22,V22,F13⟩:=zc F12
 refine zv [] (zgw fu _ _ _ V22) ?_
 refine s_as ?_
 refine zf (zW ?_)
 exact s_rn (fu,v22,(g11++[v19.1])) ⟨by first | omega | (dsimp only;omega),F13⟩ [(5060,68)]
 refine zz (zq (zp (zr ?_)))
 exact s_jn (fu,g10,g11) ⟨by first | omega | (dsimp only;omega),F9⟩
 clear F6
 rintro ⟨fu,g23,g24⟩ ⟨hl25,F7⟩
 dsimp only at hl25 F7 ⊢
 obtain _ | fu:=fu
 · rw [zgx] at F7;cases F7
 rw [zgx] at F7
 refine zb ?_
 refine za2 (α:=Nat × Bool) [73,74,75,76,77,78,79,80,81,82] [] [] (fun a=>[(82,.t (.sc (.bool a.2)))]) (fun a=>[]) (fun a=>a.1≤fu∧ze6 a.1 g23 g24 a.2=some r) ?_ ?_
 refine za ?_
 refine s_mv ?_
 refine s_mv ?_
 refine zfH yU9 ?_
 refine s_ge ?_
 refine s_mv ?_
 refine zo _ 77 F7 ?_ ?_<;>intro C26 F8
 iterate 4 refine r_no rfl ?_
 refine zA ?_
 refine zf ?_
 exact s_jn (fu,true) ⟨by first | omega | (dsimp only;omega),F8⟩
 refine s_mv ?_
 refine s_mv ?_
 obtain ⟨v27,V27,F9⟩:=zc F8
 refine s_ixS V27 yU9 ?_
 refine s_ne ?_
 refine zy ?_
 refine zf ?_
 exact s_jn (fu,(decide (v27≠41))) ⟨by first | omega | (dsimp only;omega),F9⟩
 clear F7
 rintro ⟨fu,g28⟩ ⟨hl29,F8⟩
 dsimp only at hl29 F8 ⊢
 obtain _ | fu:=fu
 · rw [ze6] at F8;cases F8
 rw [ze6] at F8
 refine zm F8 ?_ ?_<;>intro C30 F9
 refine zb (za ?_)
 refine zG yA27 yS27 ?_
 refine zab yS27 ?_
 refine s_as ?_
 refine zf (zd (zh (zg (zn ?_))))
 cases F9
 exact zZ [] [5060] (by rw [Tryz.results198];exact (zas (by conv=>lhs;whnf) (by conv=>lhs;whnf) yA27 yS27 rfl (zaj (by conv=>lhs;whnf) zae)))
 refine zi (zd (zb (za ?_)))
 refine zG yA27 yS27 ?_
 refine s_mv ?_
 refine zJ rfl ?_
 refine zab yS27 ?_
 refine s_as ?_
 refine zf (zd (zh (zn ?_)))
 cases F9
 exact zZ [] [5060] (by rw [Tryz.results198];exact (zas (by conv=>lhs;whnf) (by conv=>lhs;whnf) yA27 yS27 rfl (zaj (by conv=>lhs;whnf) zae)))
end Go.Abs
