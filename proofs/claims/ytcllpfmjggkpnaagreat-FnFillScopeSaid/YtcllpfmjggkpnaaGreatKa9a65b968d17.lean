/- A part of the proof: what the functions that the law calls answer, as pure values. -/
import Derived.Test.YtcllpfmjggkpnaaGreatKcd1b73107f87
import Derived.Test.YtcllpfmjggkpnaaGreatKa8136476e481
import Derived.Test.YtcllpfmjggkpnaaGreatK1df75f79e59f
set_option linter.unusedSimpArgs false
set_option linter.unusedVariables false
set_option maxRecDepth 100000
set_option maxHeartbeats 4000000
namespace Go.Abs
open Go.Proofs
def m_spec_l15Open_AC (fuel:Nat):Prop:=∀ (x1:(List Int)) (r:zba),zeF fuel x1=some r→AC Tryz.prog 16 [.t (.sl (x1.map rB))] (objs []) (.rf 10 0) (objs [(10,.box [.t (.sl (r.b.map rB)),.t (.sc (.int .i64 r.p))])])
theorem zhB (fuel:Nat):m_spec_l15Open_AC fuel:=by
 intro x1 r F0
 unfold zeF at F0
 refine AC_i [.rf 10 0] Tryz.func16 rfl Tryz.ntmps16 ?_
 intro C hC
 refine zb (za ?_)
 refine s_as ?_
 refine zf (zd (zb (zb (za ?_))))
 refine s_mv ?_
 refine zF yU22 ?_
 refine s_gt ?_
 refine zf (zd ?_)
 refine zm F0 ?_ ?_<;>intro C1 F1
 refine zW 0 (fun B2=>?_)
 refine za ?_
 refine s_mv ?_
 obtain ⟨v3,V3,F2⟩:=zc F1
 refine s_sl01 rB (fun _=>rfl) V3 yU22 yE22 ?_
 refine s_as ?_
 refine zf (zd (zb (za ?_)))
 refine s_mv ?_
 refine zeJ yZ73 yL73 ?_
 refine za9 ?_
 refine s_as ?_
 refine zf (zd (zh (zn ?_)))
 cases F2
 exact zl _ [] Tryz.results16
 refine zi (zd (zb (za ?_)))
 refine s_mv ?_
 refine zeJ yZ73 yL73 ?_
 refine za9 ?_
 refine s_as ?_
 refine zf (zd (zh (zn ?_)))
 cases F1
 exact zl _ [] Tryz.results16
def m_spec_l15Rd_pick_AC (fuel:Nat):Prop:=∀ (o1:zba) (x2:Int) (r:(Int × zba)),zL fuel o1 x2=some r→AC Tryz.prog 17 [.rf 9000 0,.t (.sc (.int .i64 x2))] (objs [(9000,.box [.t (.sl (o1.b.map rB)),.t (.sc (.int .i64 o1.p))])]) (.t (.sc (.int .i64 r.1))) (objs [(9000,.box [.t (.sl (r.2.b.map rB)),.t (.sc (.int .i64 r.2.p))])])
theorem zV (fuel:Nat):m_spec_l15Rd_pick_AC fuel:=by
 intro o1 x2 r F0
 unfold zL at F0
 refine AC_i [.t (.sc (.int .i64 r.1))] Tryz.func17 rfl Tryz.ntmps17 ?_
 intro C hC
 refine zb (za ?_)
 refine s_as ?_
 refine zf (zd (zb (za ?_)))
 refine s_mv ?_
 refine s_mv ?_
 refine s_nc ?_
 refine s_fa yF73_1 ?_
 refine zu yA3 ?_
 refine zO rfl ?_
 refine s_nc ?_
 refine s_fa yF73_1 ?_
 refine zgO yS3 ?_
 refine zf (zd (zb (zb (za ?_))))
 refine s_mv ?_
 refine s_lt ?_
 refine s_mv ?_
 refine zo _ 17 F0 ?_ ?_<;>intro C1 F1
 iterate 6 refine r_no rfl ?_
 refine zz ?_
 refine zf (zd (zM rfl (zb (za ?_))))
 refine s_as ?_
 refine zf (zd (zh (zg (zn ?_))))
 cases F1
 exact zl _ [] Tryz.results17
 refine s_mv ?_
 refine s_nc ?_
 refine s_fa yF73_0 ?_
 refine zu yA22 ?_
 refine zF yU22 ?_
 refine s_eq ?_
 refine zB ?_
 refine zf (zd ?_)
 refine zm F1 ?_ ?_<;>intro C2 F2
 refine zb (za ?_)
 refine s_as ?_
 refine zf (zd (zh (zg (zn ?_))))
 cases F2
 exact zl _ [] Tryz.results17
 refine zi (zd (zb (za ?_)))
 refine s_mv ?_
 refine s_nc ?_
 refine s_fa yF73_1 ?_
 refine zu yA3 ?_
 refine zhq rfl ?_
 refine s_as ?_
 refine zf (zd (zb (zb (za ?_))))
 refine s_mv ?_
 refine s_mv ?_
 refine s_nc ?_
 refine s_fa yF73_0 ?_
 refine zu yA22 ?_
 refine zF yU22 ?_
 refine s_lt ?_
 refine zf (zd ?_)
 refine zm F2 ?_ ?_<;>intro C3 F3
 refine zb (za ?_)
 refine s_mv ?_
 refine s_nc ?_
 refine s_fa yF73_0 ?_
 refine zu yA22 ?_
 refine s_mv ?_
 obtain ⟨v4,V4,F4⟩:=zc F3
 refine zN rB V4 rfl yE22 ?_
 refine zu yA5 ?_
 refine s_int yU5 yU3 rfl ?_
 refine s_mv ?_
 obtain ⟨hk5,F5⟩:=zab F4
 refine s_rem (h0:=not_zero hk5) ?_
 refine s_as ?_
 refine zf (zd (zh (zg (zn ?_))))
 cases F5
 exact zl _ [] Tryz.results17
 refine zi (zd (zb ?_))
 refine z7 yMix (by kernel_rfl) ?_
 refine zhr ?_
 refine s_nc ?_
 refine s_fa yF73_0 ?_
 refine zu yA22 ?_
 refine s_mv ?_
 refine zhr ?_
 refine s_nc ?_
 refine s_fa yF73_0 ?_
 refine zu yA22 ?_
 refine zF yU22 ?_
 obtain ⟨hk6,F4⟩:=zab F3
 refine s_rem (h0:=not_zero hk6) ?_
 obtain ⟨v7,V7,F5⟩:=zc F4
 refine zN rB V7 rfl yE22 ?_
 refine zu yA5 ?_
 refine s_int yU5 yU3 rfl ?_
 refine s_mul rfl ?_
 refine zhr ?_
 refine s_nc ?_
 refine s_fa yF73_0 ?_
 refine zu yA22 ?_
 refine s_mv ?_
 refine s_mul rfl ?_
 refine zO rfl ?_
 refine zhr ?_
 refine s_nc ?_
 refine s_fa yF73_0 ?_
 refine zu yA22 ?_
 refine zF yU22 ?_
 obtain ⟨hk8,F6⟩:=zab F5
 refine s_rem (h0:=not_zero hk8) ?_
 obtain ⟨v9,V9,F7⟩:=zc F6
 refine zN rB V9 rfl yE22 ?_
 refine zu yA5 ?_
 refine s_int yU5 yU3 rfl ?_
 refine s_mul rfl ?_
 refine zO rfl ?_
 refine s_mv ?_
 refine s_mul rfl ?_
 refine zO rfl ?_
 refine s_mv ?_
 refine zhr ?_
 refine s_nc ?_
 refine s_fa yF73_0 ?_
 refine zu yA22 ?_
 refine zF yU22 ?_
 obtain ⟨hk10,F8⟩:=zab F7
 refine s_quo (h0:=not_zero hk10) rfl ?_
 refine s_mul rfl ?_
 refine zO rfl ?_
 refine s_as ?_
 refine zar (by kernel_rfl) ?_
 refine zd (zb (za ?_))
 refine s_mv ?_
 refine s_mv ?_
 refine s_quo rfl ?_
 refine s_xor rfl ?_
 refine s_as ?_
 refine zf (zd (zb (za ?_)))
 refine s_mv ?_
 refine s_mv ?_
 obtain ⟨hk11,F9⟩:=zab F8
 refine s_rem (h0:=not_zero hk11) ?_
 refine s_as ?_
 refine zf (zd (zh (zn ?_)))
 cases F9
 exact zl _ [] Tryz.results17
def m_spec_l1Skip_AC (fuel:Nat):Prop:=∀ (x1:ByteArray) (x2:Int) (r:Int),zfb fuel x1 x2=some r→AC Tryz.prog 136 [.t (.sc (.str x1)),.t (.sc (.int .i64 x2))] noOb (.t (.sc (.int .i64 r))) noOb
theorem zfA (fuel:Nat):m_spec_l1Skip_AC fuel:=by
 intro x1 x2 r F0
 unfold zfb at F0
 refine AC_i [.t (.sc (.int .i64 r))] Tryz.func136 rfl Tryz.ntmps136 ?_
 intro C hC
 refine zb (za ?_)
 refine s_as ?_
 refine zf (zd (zb (zk ?_)))
 refine zbk (β:=Int) [1,5,6,7,8,9,10,11,12,13,14,15,16] [] [] (fun a=>[(1,.t (.sc (.int .i64 a.2)))]) (fun a=>[]) (fun a=>a.1≤fuel∧zeg a.1 x1 a.2=some r) (fuel,x2) ⟨Nat.le_refl _,F0⟩ ?_
 clear F0
 rintro ⟨fu,g1⟩ ⟨hl2,F1⟩
 dsimp only at hl2 F1 ⊢
 obtain _ | fu:=fu
 · rw [zeg] at F1;cases F1
 rw [zeg] at F1
 refine zb (zb (za ?_))
 refine s_mv ?_
 refine s_mv ?_
 refine zeS yU9 ?_
 refine s_lt ?_
 refine s_mv ?_
 refine zo _ 9 F1 ?_ ?_<;>intro C3 F2
 refine s_mv ?_
 refine s_mv ?_
 obtain ⟨v4,V4,F3⟩:=zc F2
 refine s_ixS V4 yU9 ?_
 refine s_eq ?_
 refine zz ?_
 refine zf (zd ?_)
 refine zm F3 ?_ ?_<;>intro C5 F4
 refine zi (zd (zk (za ?_)))
 refine s_mv ?_
 refine zO rfl ?_
 refine s_as ?_
 refine zf (zaa ?_)
 exact s_rn (fu,(w64 (g1+1))) ⟨by first | omega | (dsimp only;omega),F4⟩
 refine zA (zq (zp (zr (zd (zb (za ?_))))))
 refine s_mv ?_
 refine s_as ?_
 refine zf (zd (zh (zn ?_)))
 cases F4
 exact zl [] [] Tryz.results136
 iterate 4 refine r_no rfl ?_
 refine zB ?_
 refine zf (zd (zaS rfl (zA (zq (zp (zr (zd (zb (za ?_)))))))))
 refine s_mv ?_
 refine s_as ?_
 refine zf (zd (zh (zn ?_)))
 cases F2
 exact zl [] [] Tryz.results136
def m_spec_l1Word_AC (fuel:Nat):Prop:=∀ (x1:ByteArray) (x2:Int) (r:Int),zhJ fuel x1 x2=some r→AC Tryz.prog 157 [.t (.sc (.str x1)),.t (.sc (.int .i64 x2))] noOb (.t (.sc (.int .i64 r))) noOb
theorem m_spec_l1Word_ok (fuel:Nat):m_spec_l1Word_AC fuel:=by
 intro x1 x2 r F0
 unfold zhJ at F0
 refine AC_i [.t (.sc (.int .i64 r))] Tryz.func157 rfl Tryz.ntmps157 ?_
 intro C hC
 refine zb (za ?_)
 refine s_as ?_
 refine zf (zd (zb (zk ?_)))
 refine zbk (β:=Int) [1,5,6,7,8,9,10,11,12,13,14,15,16,17,18,19,20,21,22,23,24,25,26,27,28,29,30,31,32,33,34] [] [] (fun a=>[(1,.t (.sc (.int .i64 a.2)))]) (fun a=>[]) (fun a=>a.1≤fuel∧zef a.1 x1 a.2=some r) (fuel,x2) ⟨Nat.le_refl _,F0⟩ ?_
 clear F0
 rintro ⟨fu,g1⟩ ⟨hl2,F1⟩
 dsimp only at hl2 F1 ⊢
 obtain _ | fu:=fu
 · rw [zef] at F1;cases F1
 rw [zef] at F1
 refine zb (zb (za ?_))
 refine s_mv ?_
 refine s_mv ?_
 refine zeS yU9 ?_
 refine s_lt ?_
 refine s_mv ?_
 refine zo _ 9 F1 ?_ ?_<;>intro C3 F2
 refine s_mv ?_
 refine s_mv ?_
 obtain ⟨v4,V4,F3⟩:=zc F2
 refine s_ixS V4 yU9 ?_
 refine s_ne ?_
 refine zz ?_
 refine s_mv ?_
 refine zo _ 15 F3 ?_ ?_<;>intro C5 F4
 refine s_mv ?_
 refine s_mv ?_
 obtain ⟨v6,V6,F5⟩:=zc F4
 refine s_ixS V6 yU9 ?_
 refine s_ne ?_
 refine zz ?_
 refine s_mv ?_
 refine zo _ 21 F5 ?_ ?_<;>intro C7 F6
 refine s_mv ?_
 refine s_mv ?_
 obtain ⟨v8,V8,F7⟩:=zc F6
 refine s_ixS V8 yU9 ?_
 refine s_ne ?_
 refine zz ?_
 refine s_mv ?_
 refine zo _ 27 F7 ?_ ?_<;>intro C9 F8
 refine s_mv ?_
 refine s_mv ?_
 obtain ⟨v10,V10,F9⟩:=zc F8
 refine s_ixS V10 yU9 ?_
 refine s_ne ?_
 refine zz ?_
 refine zf (zd ?_)
 refine zm F9 ?_ ?_<;>intro C11 F10
 refine zi (zd (zk (za ?_)))
 refine s_mv ?_
 refine zO rfl ?_
 refine s_as ?_
 refine zf (zaa ?_)
 exact s_rn (fu,(w64 (g1+1))) ⟨by first | omega | (dsimp only;omega),F10⟩
 refine zA (zq (zp (zr (zd (zb (za ?_))))))
 refine s_mv ?_
 refine s_as ?_
 refine zf (zd (zh (zn ?_)))
 cases F10
 exact zl [] [] Tryz.results157
 iterate 4 refine r_no rfl ?_
 refine zB ?_
 refine zf (zd (zaS rfl (zA (zq (zp (zr (zd (zb (za ?_)))))))))
 refine s_mv ?_
 refine s_as ?_
 refine zf (zd (zh (zn ?_)))
 cases F8
 exact zl [] [] Tryz.results157
 iterate 4 refine r_no rfl ?_
 refine zB ?_
 refine s_mv ?_
 iterate 4 refine r_no rfl ?_
 refine zB ?_
 refine zf (zd (zaS rfl (zA (zq (zp (zr (zd (zb (za ?_)))))))))
 refine s_mv ?_
 refine s_as ?_
 refine zf (zd (zh (zn ?_)))
 cases F6
 exact zl [] [] Tryz.results157
 iterate 4 refine r_no rfl ?_
 refine zB ?_
 refine s_mv ?_
 iterate 4 refine r_no rfl ?_
 refine zB ?_
 refine s_mv ?_
 iterate 4 refine r_no rfl ?_
 refine zB ?_
 refine zf (zd (zaS rfl (zA (zq (zp (zr (zd (zb (za ?_)))))))))
 refine s_mv ?_
 refine s_as ?_
 refine zf (zd (zh (zn ?_)))
 cases F4
 exact zl [] [] Tryz.results157
 iterate 4 refine r_no rfl ?_
 refine zB ?_
 refine s_mv ?_
 iterate 4 refine r_no rfl ?_
 refine zB ?_
 refine s_mv ?_
 iterate 4 refine r_no rfl ?_
 refine zB ?_
 refine s_mv ?_
 iterate 4 refine r_no rfl ?_
 refine zB ?_
 refine zf (zd (zaS rfl (zA (zq (zp (zr (zd (zb (za ?_)))))))))
 refine s_mv ?_
 refine s_as ?_
 refine zf (zd (zh (zn ?_)))
 cases F2
 exact zl [] [] Tryz.results157
def m_spec_l15Num_AC (fuel:Nat):Prop:=∀ (x1:ByteArray) (r:(Int × Bool)),zgQ fuel x1=some r→AC Tryz.prog 158 [.t (.sc (.str x1))] noOb (.tp [.t (.sc (.int .i64 r.1)),.t (.sc (.bool r.2))]) noOb
theorem m_spec_l15Num_ok (fuel:Nat):m_spec_l15Num_AC fuel:=by
 intro x1 r F0
 unfold zgQ at F0
 refine AC_i [.t (.sc (.int .i64 r.1)),.t (.sc (.bool r.2))] Tryz.func158 rfl Tryz.ntmps158 ?_
 intro C hC
 refine zb (za ?_)
 refine s_as ?_
 refine s_as ?_
 refine zf (zd ?_)
 refine zbj (α:=Nat × Bool) [4,7,8,9,10,11,12,13,14] [] [] (fun a=>[(4,.t (.sc (.bool a.2)))]) (fun a=>[]) (fun a=>a.1≤fuel∧zet a.1 x1 a.2=some r) ?_ ?_
 refine za ?_
 refine s_mv ?_
 refine zeS yU9 ?_
 refine s_gt ?_
 refine s_mv ?_
 refine zo _ 10 F0 ?_ ?_<;>intro C1 F1
 refine s_mv ?_
 obtain ⟨v2,V2,F2⟩:=zc F1
 refine s_ixS V2 yU9 ?_
 refine s_eq ?_
 refine zz ?_
 refine s_as ?_
 refine zf ?_
 exact s_jn (fuel,(decide (v2=45))) ⟨by first | omega | (dsimp only;omega),F2⟩
 iterate 3 refine r_no rfl ?_
 refine zB ?_
 refine s_as ?_
 refine zf ?_
 exact s_jn (fuel,false) ⟨by first | omega | (dsimp only;omega),F1⟩
 clear F0
 rintro ⟨fu,g3⟩ ⟨hl4,F1⟩
 dsimp only at hl4 F1 ⊢
 obtain _ | fu:=fu
 · rw [zet] at F1;cases F1
 rw [zet] at F1
 refine zbj (α:=Nat × ByteArray) [0,15,16,17] [] [] (fun a=>[(0,.t (.sc (.str a.2)))]) (fun a=>[]) (fun a=>a.1≤fu∧zes a.1 g3 a.2=some r) ?_ ?_
 refine zb (za ?_)
 refine s_mv ?_
 refine zf (zd ?_)
 refine zm F1 ?_ ?_<;>intro C5 F2
 refine za ?_
 refine s_mv ?_
 obtain ⟨v6,V6,F3⟩:=zc F2
 refine s_ss10 V6 yU9 ?_
 refine s_as ?_
 refine zf ?_
 exact s_jn (fu,v6) ⟨by first | omega | (dsimp only;omega),F3⟩
 refine zi ?_
 exact s_jn (fu,x1) ⟨by first | omega | (dsimp only;omega),F2⟩
 clear F1
 rintro ⟨fu,g7⟩ ⟨hl8,F2⟩
 dsimp only at hl8 F2 ⊢
 obtain _ | fu:=fu
 · rw [zes] at F2;cases F2
 rw [zes] at F2
 refine zbj (α:=Nat) [2,3,18,19,20,21,22,23,24,25,26,27,28,29,30,31,32,33,34,35,36,37,38] [] [] (fun a=>[]) (fun a=>[]) (fun a=>a≤fu∧zer a g3 g7 =some r) ?_ ?_
 refine zb (za ?_)
 refine s_mv ?_
 refine zeS yU9 ?_
 refine s_eq ?_
 refine s_mv ?_
 refine zo _ 21 F2 ?_ ?_<;>intro C9 F3
 iterate 3 refine r_no rfl ?_
 refine zz ?_
 refine s_mv ?_
 iterate 11 refine r_no rfl ?_
 refine zz ?_
 refine zf (zd (zM rfl (zb (za ?_))))
 refine s_as ?_
 refine s_as ?_
 refine zf (zd (zh (zfh (zn ?_))))
 cases F3
 exact zl [] [] Tryz.results158
 refine s_mv ?_
 refine zeS yU9 ?_
 refine s_gt ?_
 refine zB ?_
 refine s_mv ?_
 refine zo _ 26 F3 ?_ ?_<;>intro C10 F4
 iterate 11 refine r_no rfl ?_
 refine zz ?_
 refine zf (zd (zM rfl (zb (za ?_))))
 refine s_as ?_
 refine s_as ?_
 refine zf (zd (zh (zfh (zn ?_))))
 cases F4
 exact zl [] [] Tryz.results158
 refine s_mv ?_
 obtain ⟨v11,V11,F5⟩:=zc F4
 refine s_ixS V11 yU9 ?_
 refine s_eq ?_
 refine s_mv ?_
 refine zo _ 30 F5 ?_ ?_<;>intro C12 F6
 refine s_mv ?_
 refine zeS yU9 ?_
 refine s_gt ?_
 refine s_mv ?_
 refine zo _ 34 F6 ?_ ?_<;>intro C13 F7
 refine r_no rfl ?_
 refine zz ?_
 refine zz ?_
 refine zB ?_
 refine zf (zd (zM rfl (zb (za ?_))))
 refine s_as ?_
 refine s_as ?_
 refine zf (zd (zh (zfh (zn ?_))))
 cases F7
 exact zl [] [] Tryz.results158
 refine s_mv ?_
 refine zB ?_
 refine zz ?_
 refine zB ?_
 refine zf (zd ?_)
 refine zm F7 ?_ ?_<;>intro C14 F8
 refine zb (za ?_)
 refine s_as ?_
 refine s_as ?_
 refine zf (zd (zh (zfh (zn ?_))))
 cases F8
 exact zl [] [] Tryz.results158
 refine zi ?_
 exact s_jn (fu) ⟨by first | omega | (dsimp only;omega),F8⟩
 iterate 6 refine r_no rfl ?_
 refine zB ?_
 refine zB ?_
 refine zf (zd (zaS rfl (zi ?_)))
 exact s_jn (fu) ⟨by first | omega | (dsimp only;omega),F6⟩
 clear F2
 rintro fu ⟨hl15,F3⟩
 obtain _ | fu:=fu
 · rw [zer] at F3;cases F3
 rw [zer] at F3
 refine zb (za ?_)
 refine s_as ?_
 refine zf (zd (zb (zb (za ?_))))
 refine s_as ?_
 refine zf (zd (zk ?_))
 refine zbk (β:=Int × Int) [2,3,5,6,39,40,41,42,43,44,45,46,47,48,49,50,51,52,53,54,55,56,57,58,59,60,61,62] [] [] (fun a=>[(5,.t (.sc (.int .i64 a.2.1))),(6,.t (.sc (.int .i64 a.2.2)))]) (fun a=>[]) (fun a=>a.1≤fu∧zep a.1 g3 g7 a.2.1 a.2.2=some r) (fu,0,0) ⟨Nat.le_refl _,F3⟩ ?_
 clear F3
 rintro ⟨fu,g16,g17⟩ ⟨hl18,F4⟩
 dsimp only at hl18 F4 ⊢
 obtain _ | fu:=fu
 · rw [zep] at F4;cases F4
 rw [zep] at F4
 refine zb (zb (za ?_))
 refine s_mv ?_
 refine s_mv ?_
 refine zeS yU9 ?_
 refine s_lt ?_
 refine zf (zd ?_)
 refine zm F4 ?_ ?_<;>intro C19 F5
 refine zi (zd (zb (zk (zb ?_))))
 refine zbj (α:=Nat × Bool) [45,46,47,48,49,50,51,52,53,54] [] [] (fun a=>[(54,.t (.sc (.bool a.2)))]) (fun a=>[]) (fun a=>a.1≤fu∧zeq a.1 g3 g7 g16 g17 a.2=some r) ?_ ?_
 refine za ?_
 refine s_mv ?_
 refine s_mv ?_
 obtain ⟨v20,V20,F6⟩:=zc F5
 refine s_ixS V20 yU9 ?_
 refine s_lt ?_
 refine s_mv ?_
 refine zo _ 49 F6 ?_ ?_<;>intro C21 F7
 iterate 4 refine r_no rfl ?_
 refine zz ?_
 refine zf ?_
 exact s_jn (fu,true) ⟨by first | omega | (dsimp only;omega),F7⟩
 refine s_mv ?_
 refine s_mv ?_
 obtain ⟨v22,V22,F8⟩:=zc F7
 refine s_ixS V22 yU9 ?_
 refine s_gt ?_
 refine zB ?_
 refine zf ?_
 exact s_jn (fu,(decide (57 < v22))) ⟨by first | omega | (dsimp only;omega),F8⟩
 clear F5
 rintro ⟨fu,g23⟩ ⟨hl24,F6⟩
 dsimp only at hl24 F6 ⊢
 obtain _ | fu:=fu
 · rw [zeq] at F6;cases F6
 rw [zeq] at F6
 refine zm F6 ?_ ?_<;>intro C25 F7
 refine zb (za ?_)
 refine s_as ?_
 refine s_as ?_
 refine zf (zd (zh (zg (zj (zg (zy (zj (zg (zn ?_)))))))))
 cases F7
 exact zl [] [] Tryz.results158
 refine zi (zd (za ?_))
 refine s_mv ?_
 refine s_mul rfl ?_
 refine s_mv ?_
 refine s_mv ?_
 obtain ⟨v26,V26,F8⟩:=zc F7
 refine s_ixS V26 yU9 ?_
 refine zhq rfl ?_
 refine s_int yU5 yU3 rfl ?_
 refine zO rfl ?_
 refine s_as ?_
 refine zf (zaa (zd (za ?_)))
 refine s_mv ?_
 refine zO rfl ?_
 refine s_as ?_
 refine zf ?_
 exact s_rn (fu,(w64 ((w64 (g16*10))+(w64 (w8 (v26-48))))),(w64 (g17+1))) ⟨by first | omega | (dsimp only;omega),F8⟩
 refine zA (zq (zp (zr (zd (zb (zb (za ?_)))))))
 refine s_mv ?_
 refine zf (zd ?_)
 refine zm F5 ?_ ?_<;>intro C27 F6
 refine za ?_
 refine s_mv ?_
 refine s_neg rfl ?_
 refine s_as ?_
 refine zf (zd (zb (za ?_)))
 refine s_mv ?_
 refine s_as ?_
 refine s_as ?_
 refine zf (zd (zh (zn ?_)))
 cases F6
 exact zl [] [] Tryz.results158
 refine zi (zd (zb (za ?_)))
 refine s_mv ?_
 refine s_as ?_
 refine s_as ?_
 refine zf (zd (zh (zn ?_)))
 cases F6
 exact zl [] [] Tryz.results158
def m_spec_l15Cut_AC (fuel:Nat):Prop:=∀ (x1:ByteArray) (x2:Int) (r:(List ByteArray)),zhM fuel x1 x2=some r→AC Tryz.prog 163 [.t (.sc (.str x1)),.t (.sc (.int .u8 x2))] noOb (.t (.sl (r.map rS))) noOb
theorem m_spec_l15Cut_ok (fuel:Nat):m_spec_l15Cut_AC fuel:=by
 intro x1 x2 r F0
 unfold zhM at F0
 refine AC_i [.t (.sl (r.map rS))] Tryz.func163 rfl Tryz.ntmps163 ?_
 intro C hC
 refine zb (za ?_)
 refine s_as ?_
 refine zf (zd (zb (za ?_)))
 refine s_bs rS ([]:List ByteArray) yP70 yR9 ?_
 refine s_as ?_
 refine zf (zd (zb (za ?_)))
 refine s_as ?_
 refine zf (zd (zb (zb (za ?_))))
 refine s_as ?_
 refine zf (zd (zk ?_))
 refine zdl 5 8 5020 (by conv=>lhs;whnf) (by conv=>lhs;whnf) rfl ?_
 refine zap [5,6,7,9,10,11,12,13,14,15,16,17,18,19,20,21,22,23,24,25,26,27,28,29,30,31,32,33,34] [5020] [31,32] [5020] (fun a:Nat × (List ByteArray) × Int × Int=>a.1) (fun a:Nat × (List ByteArray) × Int × Int=>[(5,.ar 5020),(6,.t (.sc (.int .i64 a.2.2.1))),(7,.t (.sc (.int .i64 a.2.2.2)))]) (fun a:Nat × (List ByteArray) × Int × Int=>[(5020,.arr (a.2.1.map rS) 9 true)]) (fun a:Nat × (List ByteArray) × Int × Int=>a.1≤fuel∧zdD a.1 x1 x2 a.2.1 a.2.2.1 a.2.2.2=some r) (fuel,([]:List ByteArray),0,0) ⟨Nat.le_refl _,F0⟩ (by rfl) (by rfl) (fun _=>rfl) (zG (by conv=>lhs;whnf) (by rfl) (zG (by conv=>lhs;whnf) (by rfl) (zG (by conv=>lhs;whnf) (by rfl) za7))) (zT (by conv=>lhs;whnf) (by rfl) zaW) (zb7 hC rfl) (by repeat (first | exact zai rfl | refine zat rfl ?_ | refine zX rfl ?_)) (by repeat (first | exact zaL | exact zam rfl | refine zau rfl ?_ | refine zY rfl ?_)) ?_
 clear F0
 rintro ⟨fu,g1,g2,g3⟩ ⟨hl4,F1⟩
 dsimp only at hl4 F1 ⊢
 obtain _ | fu:=fu
 · rw [zdD] at F1;cases F1
 rw [zdD] at F1
 refine zb (zb (za ?_))
 refine s_mv ?_
 refine s_mv ?_
 refine zeS yU9 ?_
 refine s_le ?_
 refine zf (zd ?_)
 refine zm F1 ?_ ?_<;>intro C5 F2
 refine zi (zd (zb (zk ?_)))
 refine zbj (α:=Nat × Bool) [15,16,17,18,19,20,21,22,23,24,25] [] [] (fun a=>[(25,.t (.sc (.bool a.2)))]) (fun a=>[]) (fun a=>a.1≤fu∧zeu a.1 x1 x2 g1 g2 g3 a.2=some r) ?_ ?_
 refine za ?_
 refine s_mv ?_
 refine s_mv ?_
 refine zeS yU9 ?_
 refine s_eq ?_
 refine s_mv ?_
 refine zo _ 19 F2 ?_ ?_<;>intro C6 F3
 iterate 5 refine r_no rfl ?_
 refine zz ?_
 refine zf ?_
 exact s_jn (fu,true) ⟨by first | omega | (dsimp only;omega),F3⟩
 refine s_mv ?_
 refine s_mv ?_
 obtain ⟨v7,V7,F4⟩:=zc F3
 refine s_ixS V7 yU9 ?_
 refine s_mv ?_
 refine s_eq ?_
 refine zB ?_
 refine zf ?_
 exact s_jn (fu,(decide (v7=x2))) ⟨by first | omega | (dsimp only;omega),F4⟩
 clear F2
 rintro ⟨fu,g8⟩ ⟨hl9,F3⟩
 dsimp only at hl9 F3 ⊢
 obtain _ | fu:=fu
 · rw [zeu] at F3;cases F3
 rw [zeu] at F3
 refine zm F3 ?_ ?_<;>intro C10 F4
 refine zb (za ?_)
 iterate 4 refine s_mv ?_
 obtain ⟨v11,V11,F5⟩:=zc F4
 refine s_ss11 V11 yU9 ?_
 refine s_bs rS [v11] yP70 yR9 ?_
 obtain ⟨hk12,F6⟩:=zab F5
 refine zd4 rS (fun _=>rfl) hk12 yP70 ?_
 refine s_as ?_
 refine zf (zd (za ?_))
 refine s_mv ?_
 refine zO rfl ?_
 refine s_as ?_
 refine zf (zaa (zd (za ?_)))
 refine s_mv ?_
 refine zO rfl ?_
 refine s_as ?_
 refine zf ?_
 exact s_rn (fu,(g1++[v11]),(w64 (g3+1)),(w64 (g3+1))) ⟨by first | omega | (dsimp only;omega),F6⟩ [(5020,32)]
 refine zi (zaa (zd (za ?_)))
 refine s_mv ?_
 refine zO rfl ?_
 refine s_as ?_
 refine zf ?_
 exact s_rn (fu,g1,g2,(w64 (g3+1))) ⟨by first | omega | (dsimp only;omega),F4⟩
 refine zA (zq (zp (zr (zd (zb (za ?_))))))
 refine s_mv ?_
 refine s_as ?_
 refine zf (zd (zh (zn ?_)))
 cases F2
 exact zl [] [5020] Tryz.results163
def m_spec_l1Sets_AC (fuel:Nat):Prop:=∀ (x1:ByteArray) (x2:Int) (r:((List Int) × Int)),zhK fuel x1 x2=some r→AC Tryz.prog 159 [.t (.sc (.str x1)),.t (.sc (.int .i64 x2))] noOb (.tp [.t (.sl (r.1.map rI)),.t (.sc (.int .i64 r.2))]) noOb
theorem m_spec_l1Sets_ok (fuel:Nat):m_spec_l1Sets_AC fuel:=by
 intro x1 x2 r F0
 unfold zhK at F0
 refine AC_i [.t (.sl (r.1.map rI)),.t (.sc (.int .i64 r.2))] Tryz.func159 rfl Tryz.ntmps159 ?_
 intro C hC
 refine zb (za ?_)
 refine s_as ?_
 refine s_as ?_
 refine zf (zd (zb (za ?_)))
 refine s_bs rI ([]:List Int) yP24 yR3 ?_
 refine s_as ?_
 refine zf (zd (zb ?_))
 refine zbj (α:=Nat × Bool) [13,14,15,16,17,18,19,20,21,22] [] [] (fun a=>[(22,.t (.sc (.bool a.2)))]) (fun a=>[]) (fun a=>a.1≤fuel∧zel a.1 x1 x2 a.2=some r) ?_ ?_
 refine za ?_
 refine s_mv ?_
 refine s_mv ?_
 refine zeS yU9 ?_
 refine s_ge ?_
 refine s_mv ?_
 refine zo _ 17 F0 ?_ ?_<;>intro C1 F1
 iterate 4 refine r_no rfl ?_
 refine zz ?_
 refine zf ?_
 exact s_jn (fuel,true) ⟨by first | omega | (dsimp only;omega),F1⟩
 refine s_mv ?_
 refine s_mv ?_
 obtain ⟨v2,V2,F2⟩:=zc F1
 refine s_ixS V2 yU9 ?_
 refine s_ne ?_
 refine zB ?_
 refine zf ?_
 exact s_jn (fuel,(decide (v2≠123))) ⟨by first | omega | (dsimp only;omega),F2⟩
 clear F0
 rintro ⟨fu,g3⟩ ⟨hl4,F1⟩
 dsimp only at hl4 F1 ⊢
 obtain _ | fu:=fu
 · rw [zel] at F1;cases F1
 rw [zel] at F1
 refine zm F1 ?_ ?_<;>intro C5 F2
 refine zb (za ?_)
 refine s_mv ?_
 refine s_mv ?_
 refine s_as ?_
 refine s_as ?_
 refine zf (zd (zh (zg (zn ?_))))
 cases F2
 exact zl [] [12] Tryz.results159
 refine zi (zd (zb (za ?_)))
 refine s_mv ?_
 refine s_as ?_
 refine zf (zd ?_)
 refine zbj (α:=Nat × Int) [7,26,27,28,29,30,31,32,33,34,35,36,37] [] [] (fun a=>[(7,.t (.sc (.int .i64 a.2)))]) (fun a=>[]) (fun a=>a.1≤fu∧zek a.1 x1 x2 a.2=some r) ?_ ?_
 refine zk ?_
 refine zbk (β:=Int) [7,26,27,28,29,30,31,32,33,34,35,36,37] [] [] (fun a=>[(7,.t (.sc (.int .i64 a.2)))]) (fun a=>[]) (fun a=>a.1≤fu∧zei a.1 x1 x2 a.2=some r) (fu,x2) ⟨Nat.le_refl _,F2⟩ ?_
 clear F2
 rintro ⟨fu,g6⟩ ⟨hl7,F3⟩
 dsimp only at hl7 F3 ⊢
 obtain _ | fu:=fu
 · rw [zei] at F3;cases F3
 rw [zei] at F3
 refine zb (zb (za ?_))
 refine s_mv ?_
 refine s_mv ?_
 refine zeS yU9 ?_
 refine s_lt ?_
 refine s_mv ?_
 refine zo _ 30 F3 ?_ ?_<;>intro C8 F4
 refine s_mv ?_
 refine s_mv ?_
 obtain ⟨v9,V9,F5⟩:=zc F4
 refine s_ixS V9 yU9 ?_
 refine s_ne ?_
 refine zz ?_
 refine zf (zd ?_)
 refine zm F5 ?_ ?_<;>intro C10 F6
 refine zi (zd (zk (za ?_)))
 refine s_mv ?_
 refine zO rfl ?_
 refine s_as ?_
 refine zf (zaa ?_)
 exact s_rn (fu,(w64 (g6+1))) ⟨by first | omega | (dsimp only;omega),F6⟩
 refine zA (zq (zp (zr ?_)))
 exact s_jn (fu,g6) ⟨by first | omega | (dsimp only;omega),F6⟩
 iterate 4 refine r_no rfl ?_
 refine zB ?_
 refine zf (zd (zaS rfl (zA (zq (zp (zr ?_))))))
 exact s_jn (fu,g6) ⟨by first | omega | (dsimp only;omega),F4⟩
 clear F2
 rintro ⟨fu,g11⟩ ⟨hl12,F3⟩
 dsimp only at hl12 F3 ⊢
 obtain _ | fu:=fu
 · rw [zek] at F3;cases F3
 rw [zek] at F3
 refine zb (zb (za ?_))
 refine s_mv ?_
 refine s_mv ?_
 refine zeS yU9 ?_
 refine s_eq ?_
 refine zf (zd ?_)
 refine zm F3 ?_ ?_<;>intro C13 F4
 refine zb (za ?_)
 refine s_mv ?_
 refine s_as ?_
 refine s_as ?_
 refine zf (zd (zh (zg (zn ?_))))
 cases F4
 exact zl [] [12] Tryz.results159
 refine zi (zd (zb (za ?_)))
 refine s_mv ?_
 refine s_mv ?_
 refine zO rfl ?_
 refine s_mv ?_
 obtain ⟨v14,V14,F5⟩:=zc F4
 refine s_ss11 V14 yU9 ?_
 obtain ⟨v15,V15,F6⟩:=zc F5
 refine zx [] (m_spec_l15Cut_ok fu _ _ _ V15) ?_
 refine s_as ?_
 refine zf (zd (zb (zb (za ?_))))
 refine s_as ?_
 refine zf (zd (zk ?_))
 refine zdl 6 12 5080 (by conv=>lhs;whnf) (by conv=>lhs;whnf) rfl ?_
 refine zap [4,5,6,9,10,11,49,50,51,52,53,54,55,56,57,58,59,60,61,62,63,64,65,66,67,68,69,70,71,72,73] [5080] [72,73] [5080] (fun a:Nat × (List Int) × Int=>a.1) (fun a:Nat × (List Int) × Int=>[(6,.ar 5080),(9,.t (.sc (.int .i64 a.2.2)))]) (fun a:Nat × (List Int) × Int=>[(5080,.arr (a.2.1.map rI) 3 true)]) (fun a:Nat × (List Int) × Int=>a.1≤fu∧zeh a.1 g11 v15 a.2.1 a.2.2=some r) (fu,([]:List Int),0) ⟨Nat.le_refl _,F6⟩ (by rfl) (by rfl) (fun _=>rfl) (zG (by conv=>lhs;whnf) (by rfl) (zG (by conv=>lhs;whnf) (by rfl) za7)) (zT (by conv=>lhs;whnf) (by rfl) zaW) (zb7 hC rfl) (by repeat (first | exact zai rfl | refine zat rfl ?_ | refine zX rfl ?_)) (by repeat (first | exact zaL | exact zam rfl | refine zau rfl ?_ | refine zY rfl ?_)) ?_
 clear F6
 rintro ⟨fu,g16,g17⟩ ⟨hl18,F7⟩
 dsimp only at hl18 F7 ⊢
 obtain _ | fu:=fu
 · rw [zeh] at F7;cases F7
 rw [zeh] at F7
 refine zb ?_
 refine zbj (α:=Nat × Bool) [49,50,51,52,53,54,55,56] [] [] (fun a=>[(56,.t (.sc (.bool a.2)))]) (fun a=>[]) (fun a=>a.1≤fu∧zej a.1 g11 v15 g16 g17 a.2=some r) ?_ ?_
 refine za ?_
 refine s_mv ?_
 refine s_mv ?_
 refine zF yU70 ?_
 refine s_lt ?_
 refine s_mv ?_
 refine zo _ 53 F7 ?_ ?_<;>intro C19 F8
 refine s_mv ?_
 refine s_le ?_
 refine zz ?_
 refine zf ?_
 exact s_jn (fu,(decide (g17≤24))) ⟨by first | omega | (dsimp only;omega),F8⟩
 refine r_no rfl (r_no rfl ?_)
 refine zB ?_
 refine zf ?_
 exact s_jn (fu,false) ⟨by first | omega | (dsimp only;omega),F8⟩
 clear F7
 rintro ⟨fu,g20⟩ ⟨hl21,F8⟩
 dsimp only at hl21 F8 ⊢
 obtain _ | fu:=fu
 · rw [zej] at F8;cases F8
 rw [zej] at F8
 refine zm F8 ?_ ?_<;>intro C22 F9
 refine zi (zd (zb (zk (zb (za ?_)))))
 refine s_mv ?_
 refine s_mv ?_
 obtain ⟨v23,V23,F10⟩:=zc F9
 refine zN rS V23 rfl yE70 ?_
 refine zu yA9 ?_
 obtain ⟨v24,V24,F11⟩:=zc F10
 refine zx [] (m_spec_l15Num_ok fu _ _ V24) ?_
 refine s_mv ?_
 refine zbJ ?_
 refine zbJ ?_
 refine s_as ?_
 refine s_as ?_
 refine zf (zd (zb (zb (za ?_))))
 refine s_mv ?_
 refine zbq ?_
 refine zf (zd ?_)
 refine zm F11 ?_ ?_<;>intro C25 F12
 refine zb (za ?_)
 refine s_mv ?_
 refine s_as ?_
 refine s_as ?_
 refine zf (zd (zh (zg (zj (zg (zy (zj (zg (zn ?_)))))))))
 cases F12
 exact zl [] [5080] Tryz.results159
 refine zi (zd (za ?_))
 refine s_mv ?_
 refine s_mv ?_
 refine s_bs rI [v24.1] yP24 yR3 ?_
 obtain ⟨hk26,F13⟩:=zab F12
 refine zd4 rI (fun _=>rfl) hk26 yP24 ?_
 refine s_as ?_
 refine zf (zaa (zd (za ?_)))
 refine s_mv ?_
 refine zO rfl ?_
 refine s_as ?_
 refine zf ?_
 exact s_rn (fu,(g16++[v24.1]),(w64 (g17+1))) ⟨by first | omega | (dsimp only;omega),F13⟩ [(5080,73)]
 refine zA (zq (zp (zr (zd (zb (za ?_))))))
 refine s_mv ?_
 refine s_mv ?_
 refine zO rfl ?_
 refine s_as ?_
 refine s_as ?_
 refine zf (zd (zh (zn ?_)))
 cases F9
 exact zl [] [5080] Tryz.results159
def m_spec_l1Atom_AC (fuel:Nat):Prop:=∀ (x1:ByteArray) (x2:Int) (r:(Form × Int)),zhL fuel x1 x2=some r→AC Tryz.prog 147 [.t (.sc (.str x1)),.t (.sc (.int .i64 x2))] noOb (.tp [.ag [.t (.sc (.int .i64 r.1.kind)),.t (.sc (.str r.1.name)),.t (.sc (.int .i64 r.1.n)),.t (.sl (r.1.scopes.map rI)),.t (.sl (r.1.kids.map Form.row))],.t (.sc (.int .i64 r.2))]) noOb
theorem m_spec_l1Atom_ok (fuel:Nat):m_spec_l1Atom_AC fuel:=by
 intro x1 x2 r F0
 unfold zhL at F0
 refine AC_i [.ag [.t (.sc (.int .i64 r.1.kind)),.t (.sc (.str r.1.name)),.t (.sc (.int .i64 r.1.n)),.t (.sl (r.1.scopes.map rI)),.t (.sl (r.1.kids.map Form.row))],.t (.sc (.int .i64 r.2))] Tryz.func147 rfl Tryz.ntmps147 ?_
 intro C hC
 refine zb (za ?_)
 refine zR yZ27 ?_
 refine s_as ?_
 refine zf (zd (zb (za ?_)))
 refine s_mv ?_
 refine s_mv ?_
 obtain ⟨v1,V1,F1⟩:=zc F0
 refine zx [] (m_spec_l1Word_ok fuel _ _ _ V1) ?_
 refine s_as ?_
 refine zf (zd (zb (za ?_)))
 iterate 3 refine s_mv ?_
 obtain ⟨v2,V2,F2⟩:=zc F1
 refine s_ss11 V2 yU9 ?_
 refine s_as ?_
 refine zf (zd (zb (za ?_)))
 refine s_mv ?_
 obtain ⟨v3,V3,F3⟩:=zc F2
 refine zx [] (m_spec_l15Num_ok fuel _ _ V3) ?_
 refine s_mv ?_
 refine zbJ ?_
 refine zbJ ?_
 refine s_as ?_
 refine s_as ?_
 refine zf (zd (zb (zb (za ?_))))
 refine s_mv ?_
 refine zf (zd ?_)
 refine zm F3 ?_ ?_<;>intro C4 F4
 refine zb (za ?_)
 refine s_mv ?_
 refine zeJ yZ27 yL27 ?_
 refine s_mv ?_
 refine zac yS27 ?_
 refine s_as ?_
 refine zf (zd (zh (zg (zn ?_))))
 cases F4
 exact zI [] [] (by rw [Tryz.results147];exact (zZ (by conv=>lhs;whnf) (by conv=>lhs;whnf) yA27 yS27 rfl (zah (by conv=>lhs;whnf) zP)))
 refine zi (zd (zb (zb (za ?_))))
 refine s_mv ?_
 refine zht ?_
 refine zf (zd ?_)
 refine zm F4 ?_ ?_<;>intro C5 F5
 refine zb (za ?_)
 refine zeJ yZ27 yL27 ?_
 refine zac yS27 ?_
 refine s_as ?_
 refine zf (zd (zh (zg (zn ?_))))
 cases F5
 exact zI [] [] (by rw [Tryz.results147];exact (zZ (by conv=>lhs;whnf) (by conv=>lhs;whnf) yA27 yS27 rfl (zah (by conv=>lhs;whnf) zP)))
 refine zi (zd (zb (za ?_)))
 refine s_mv ?_
 refine s_mv ?_
 obtain ⟨v6,V6,F6⟩:=zc F5
 refine zx [] (m_spec_l1Sets_ok fuel _ _ _ V6) ?_
 refine s_mv ?_
 refine zbJ ?_
 refine zbJ ?_
 refine s_as ?_
 refine s_as ?_
 refine zf (zd (zb (za ?_)))
 refine s_mv ?_
 refine s_mv ?_
 refine zeJ yZ27 yL27 ?_
 refine s_mv ?_
 refine zac yS27 ?_
 refine s_as ?_
 refine zf (zd (zh (zn ?_)))
 cases F6
 exact zI [] [] (by rw [Tryz.results147];exact (zZ (by conv=>lhs;whnf) (by conv=>lhs;whnf) yA27 yS27 rfl (zah (by conv=>lhs;whnf) zP)))
def zfC (fuel:Nat):Prop:=∀ (x1:ByteArray) (x2:Int) (x3:Int) (r:(Form × Int)),zf3 fuel x1 x2 x3=some r→AC Tryz.prog 135 [.t (.sc (.str x1)),.t (.sc (.int .i64 x2)),.t (.sc (.int .i64 x3))] noOb (.tp [.ag [.t (.sc (.int .i64 r.1.kind)),.t (.sc (.str r.1.name)),.t (.sc (.int .i64 r.1.n)),.t (.sl (r.1.scopes.map rI)),.t (.sl (r.1.kids.map Form.row))],.t (.sc (.int .i64 r.2))]) noOb
theorem m_spec_l1Read_st (fu:Nat) (ih_m_spec_l1Read:∀ k,k≤fu→zfC k):zfC (fu+1):=by
 intro x1 x2 x3 r F0
 rw [zf3] at F0
 refine AC_i [.ag [.t (.sc (.int .i64 r.1.kind)),.t (.sc (.str r.1.name)),.t (.sc (.int .i64 r.1.n)),.t (.sl (r.1.scopes.map rI)),.t (.sl (r.1.kids.map Form.row))],.t (.sc (.int .i64 r.2))] Tryz.func135 rfl Tryz.ntmps135 ?_
 intro C hC
 refine zb (za ?_)
 refine zR yZ27 ?_
 refine s_as ?_
 refine zf (zd (zb (za ?_)))
 refine s_mv ?_
 refine s_mv ?_
 obtain ⟨v1,V1,F1⟩:=zc F0
 refine zx [] (zfA fu _ _ _ V1) ?_
 refine s_as ?_
 refine zf (zd (zb ?_))
 refine zbj (α:=Nat × Bool) [14,15,16,17,18,19,20,21] [] [] (fun a=>[(21,.t (.sc (.bool a.2)))]) (fun a=>[]) (fun a=>a.1≤fu∧zeo a.1 x1 x3 v1 a.2=some r) ?_ ?_
 refine za ?_
 refine s_mv ?_
 refine s_mv ?_
 refine zeS yU9 ?_
 refine s_ge ?_
 refine s_mv ?_
 refine zo _ 18 F1 ?_ ?_<;>intro C2 F2
 refine r_no rfl (r_no rfl ?_)
 refine zz ?_
 refine zf ?_
 exact s_jn (fu,true) ⟨by first | omega | (dsimp only;omega),F2⟩
 refine s_mv ?_
 refine s_eq ?_
 refine zB ?_
 refine zf ?_
 exact s_jn (fu,(decide (x3=0))) ⟨by first | omega | (dsimp only;omega),F2⟩
 clear F1
 rintro ⟨fu,g3⟩ ⟨hl4,F2⟩
 dsimp only at hl4 F2 ⊢
 obtain _ | fu:=fu
 · rw [zeo] at F2;cases F2
 rw [zeo] at F2
 refine zm F2 ?_ ?_<;>intro C5 F3
 refine zb (za ?_)
 refine zeJ yZ27 yL27 ?_
 refine zac yS27 ?_
 refine s_as ?_
 refine zf (zd (zh (zg (zn ?_))))
 cases F3
 exact zI [] [] (by rw [Tryz.results135];exact (zZ (by conv=>lhs;whnf) (by conv=>lhs;whnf) yA27 yS27 rfl (zah (by conv=>lhs;whnf) zP)))
 refine zi (zd (zb (zb (za ?_))))
 refine s_mv ?_
 refine s_mv ?_
 obtain ⟨v6,V6,F4⟩:=zc F3
 refine s_ixS V6 yU9 ?_
 refine s_ne ?_
 refine zf (zd ?_)
 refine zm F4 ?_ ?_<;>intro C7 F5
 refine zb (za ?_)
 refine s_mv ?_
 refine s_mv ?_
 obtain ⟨v8,V8,F6⟩:=zc F5
 refine zx [] (m_spec_l1Atom_ok fu _ _ _ V8) ?_
 refine zbJ ?_
 refine zbJ ?_
 refine zac yS27 ?_
 refine s_as ?_
 refine zf (zd (zh (zg (zn ?_))))
 cases F6
 exact zI [] [] (by rw [Tryz.results135];exact (zZ (by conv=>lhs;whnf) (by conv=>lhs;whnf) yA27 yS27 rfl (zah (by conv=>lhs;whnf) zP)))
 refine zi (zd (zb (za ?_)))
 refine zeJ yZ27 yL27 ?_
 refine zR yZ27 ?_
 refine zac yS27 ?_
 refine zf (zd (zb (za ?_)))
 refine s_mv ?_
 refine s_mv ?_
 refine zO rfl ?_
 obtain ⟨v9,V9,F6⟩:=zc F5
 refine zx [] (zfA fu _ _ _ V9) ?_
 refine s_as ?_
 refine zf (zd ?_)
 refine zbj (α:=Nat × Int × (List Form)) [1,7,9,10,37,38,39,40,41,42,43,44,45,46,47,48,49,50,51,52,53,54,55,56,57,58,59,60,61,62,63,64,65,66,67,68,69,70,71,72] [8,5060] [] (fun a=>[(1,.t (.sc (.int .i64 a.2.1)))]) (fun a=>[(8,.box [.t (.sc (.int .i64 3)),.t (.sc (.str (⟨#[]⟩:ByteArray))),.t (.sc (.int .i64 0)),.nl,.ar 5060]),(5060,.arr (a.2.2.map Form.row) 27 true)]) (fun a=>a.1≤fu∧zfB a.1 x1 a.2.1 a.2.2=some r) ?_ ?_
 refine zk ?_
 refine zgZ 8 5060 27 [.t (.sc (.int .i64 3)),.t (.sc (.str (⟨#[]⟩:ByteArray))),.t (.sc (.int .i64 0)),.nl,.ar 5060] yI27.choose_spec ?_
 refine zap [1,7,9,10,37,38,39,40,41,42,43,44,45,46,47,48,49,50,51,52,53,54,55,56,57,58,59,60,61,62,63,64,65,66,67,68,69,70,71,72] [8,5060] [9,67,68] [5060] (fun a:Nat × Int × (List Form)=>a.1) (fun a:Nat × Int × (List Form)=>[(1,.t (.sc (.int .i64 a.2.1)))]) (fun a:Nat × Int × (List Form)=>[(8,.box [.t (.sc (.int .i64 3)),.t (.sc (.str (⟨#[]⟩:ByteArray))),.t (.sc (.int .i64 0)),.nl,.ar 5060]),(5060,.arr (a.2.2.map Form.row) 27 true)]) (fun a:Nat × Int × (List Form)=>a.1≤fu∧zem a.1 x1 x3 a.2.1 a.2.2=some r) (fu,v9,([]:List Form)) ⟨Nat.le_refl _,F6⟩ (by rfl) (by rfl) (fun _=>rfl) (zG (by conv=>lhs;whnf) (by rfl) za7) (zT (by conv=>lhs;whnf) (by rfl) (zT (by conv=>lhs;whnf) (by rfl) zaW)) (zb7 hC rfl) (by repeat (first | exact zai rfl | refine zat rfl ?_ | refine zX rfl ?_)) (by repeat (first | exact zaL | exact zam rfl | refine zau rfl ?_ | refine zY rfl ?_)) ?_
 clear F6
 rintro ⟨fu,g10,g11⟩ ⟨hl12,F7⟩
 dsimp only at hl12 F7 ⊢
 obtain _ | fu:=fu
 · rw [zem] at F7;cases F7
 rw [zem] at F7
 refine zb ?_
 refine zbj (α:=Nat × Bool) [37,38,39,40,41,42,43,44,45,46,47,48,49,50,51,52] [] [] (fun a=>[(52,.t (.sc (.bool a.2)))]) (fun a=>[]) (fun a=>a.1≤fu∧zdC a.1 x1 x3 g10 g11 a.2=some r) ?_ ?_
 refine za ?_
 refine s_mv ?_
 refine s_mv ?_
 refine zeS yU9 ?_
 refine s_lt ?_
 refine s_mv ?_
 refine zo _ 41 F7 ?_ ?_<;>intro C13 F8
 refine s_mv ?_
 refine s_mv ?_
 obtain ⟨v14,V14,F9⟩:=zc F8
 refine s_ixS V14 yU9 ?_
 refine s_ne ?_
 refine zz ?_
 refine s_mv ?_
 refine zo _ 47 F9 ?_ ?_<;>intro C15 F10
 refine s_fa zH ?_
 refine zu yA25 ?_
 refine zhs yU25 ?_
 refine s_lt ?_
 refine zz ?_
 refine zf ?_
 exact s_jn (fu,(decide ((g11.length:Int) < 400))) ⟨by first | omega | (dsimp only;omega),F10⟩
 iterate 4 refine r_no rfl ?_
 refine zB ?_
 refine zf ?_
 exact s_jn (fu,false) ⟨by first | omega | (dsimp only;omega),F10⟩
 iterate 4 refine r_no rfl ?_
 refine zB ?_
 refine s_mv ?_
 iterate 4 refine r_no rfl ?_
 refine zB ?_
 refine zf ?_
 exact s_jn (fu,false) ⟨by first | omega | (dsimp only;omega),F8⟩
 clear F7
 rintro ⟨fu,g16⟩ ⟨hl17,F8⟩
 dsimp only at hl17 F8 ⊢
 obtain _ | fu:=fu
 · rw [zdC] at F8;cases F8
 rw [zdC] at F8
 refine zm F8 ?_ ?_<;>intro C18 F9
 refine zi (zd (zk (zb (za ?_))))
 iterate 3 refine s_mv ?_
 refine zhq rfl ?_
 obtain ⟨v19,V19,F10⟩:=zc F9
 refine zx [] (ih_m_spec_l1Read fu (by omega) _ _ _ _ V19) ?_
 refine s_mv ?_
 refine zbJ ?_
 refine zbJ ?_
 refine zR yZ27 ?_
 refine zac yS27 ?_
 refine s_as ?_
 refine zf (zd (zb (zb (za ?_))))
 refine s_mv ?_
 refine s_lt ?_
 refine zf (zd ?_)
 refine zm F10 ?_ ?_<;>intro C20 F11
 refine zb (za ?_)
 refine zJ yA27 yS27 ?_
 refine zac yS27 ?_
 refine s_as ?_
 refine zf (zd (zh (zg (zj (zy (zj (zfh (zn ?_))))))))
 cases F11
 exact zI [] [5060] (by rw [Tryz.results135];exact (zZ (by conv=>lhs;whnf) (by conv=>lhs;whnf) yA27 yS27 rfl (zah (by conv=>lhs;whnf) zP)))
 refine zi (zd (zb (za ?_)))
 refine s_fa zH ?_
 refine zu yA25 ?_
 refine zJ yA27 yS27 ?_
 refine s_bs Form.row [v19.1] yP25 yR27 ?_
 obtain ⟨hk21,F12⟩:=zab F11
 refine zd4 Form.row (fun y=>Form.row_len y) hk21 yP25 ?_
 refine s_fa zH ?_
 refine zgO yS25 ?_
 refine zf (zd (za ?_))
 refine s_mv ?_
 refine s_mv ?_
 obtain ⟨v22,V22,F13⟩:=zc F12
 refine zx [] (zfA fu _ _ _ V22) ?_
 refine s_as ?_
 refine zf (zaa ?_)
 exact s_rn (fu,v22,(g11++[v19.1])) ⟨by first | omega | (dsimp only;omega),F13⟩ [(5060,68)]
 refine zA (zq (zp (zr ?_)))
 exact s_jn (fu,g10,g11) ⟨by first | omega | (dsimp only;omega),F9⟩
 clear F6
 rintro ⟨fu,g23,g24⟩ ⟨hl25,F7⟩
 dsimp only at hl25 F7 ⊢
 obtain _ | fu:=fu
 · rw [zfB] at F7;cases F7
 rw [zfB] at F7
 refine zb ?_
 refine zbj (α:=Nat × Bool) [73,74,75,76,77,78,79,80,81,82] [] [] (fun a=>[(82,.t (.sc (.bool a.2)))]) (fun a=>[]) (fun a=>a.1≤fu∧zen a.1 g23 g24 a.2=some r) ?_ ?_
 refine za ?_
 refine s_mv ?_
 refine s_mv ?_
 refine zeS yU9 ?_
 refine s_ge ?_
 refine s_mv ?_
 refine zo _ 77 F7 ?_ ?_<;>intro C26 F8
 iterate 4 refine r_no rfl ?_
 refine zz ?_
 refine zf ?_
 exact s_jn (fu,true) ⟨by first | omega | (dsimp only;omega),F8⟩
 refine s_mv ?_
 refine s_mv ?_
 obtain ⟨v27,V27,F9⟩:=zc F8
 refine s_ixS V27 yU9 ?_
 refine s_ne ?_
 refine zB ?_
 refine zf ?_
 exact s_jn (fu,(decide (v27≠41))) ⟨by first | omega | (dsimp only;omega),F9⟩
 clear F7
 rintro ⟨fu,g28⟩ ⟨hl29,F8⟩
 dsimp only at hl29 F8 ⊢
 obtain _ | fu:=fu
 · rw [zen] at F8;cases F8
 rw [zen] at F8
 refine zm F8 ?_ ?_<;>intro C30 F9
 refine zb (za ?_)
 refine zJ yA27 yS27 ?_
 refine zac yS27 ?_
 refine s_as ?_
 refine zf (zd (zh (zg (zn ?_))))
 cases F9
 exact zI [] [5060] (by rw [Tryz.results135];exact (zZ (by conv=>lhs;whnf) (by conv=>lhs;whnf) yA27 yS27 rfl (zah (by conv=>lhs;whnf) zP)))
 refine zi (zd (zb (za ?_)))
 refine zJ yA27 yS27 ?_
 refine s_mv ?_
 refine zO rfl ?_
 refine zac yS27 ?_
 refine s_as ?_
 refine zf (zd (zh (zn ?_)))
 cases F9
 exact zI [] [5060] (by rw [Tryz.results135];exact (zZ (by conv=>lhs;whnf) (by conv=>lhs;whnf) yA27 yS27 rfl (zah (by conv=>lhs;whnf) zP)))
end Go.Abs
