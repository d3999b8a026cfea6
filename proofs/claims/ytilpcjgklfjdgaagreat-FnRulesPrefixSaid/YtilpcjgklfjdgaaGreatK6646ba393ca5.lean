/- A part of the proof: what the functions that the law calls answer, as pure values. -/
import Derived.Test.YtilpcjgklfjdgaaGreatKbeececb3b691
import Derived.Test.YtilpcjgklfjdgaaGreatKdfd114e1f3bb
import Derived.Test.YtilpcjgklfjdgaaGreatK25b6b0d87810
set_option linter.unusedSimpArgs false
set_option linter.unusedVariables false
set_option maxRecDepth 100000
set_option maxHeartbeats 4000000
namespace Go.Abs
open Go.Proofs
def m_spec_l15Open_AC (fuel:Nat):Prop:=∀ (x1:(List Int)) (r:zb7),zf9 fuel x1=some r→AC Tryz.prog 29 [.t (.sl (x1.map rB))] (objs []) (.rf 10 0) (objs [(10,.box [.t (.sl (r.b.map rB)),.t (.sc (.int .i64 r.p))])])
theorem m_spec_l15Open_ok (fuel:Nat):m_spec_l15Open_AC fuel:=by
 intro x1 r F0
 unfold zf9 at F0
 refine AC_i [.rf 10 0] Tryz.func29 rfl Tryz.ntmps29 ?_
 intro C hC
 refine zb (za ?_)
 refine s_as ?_
 refine zf (zd (zb (zb (za ?_))))
 refine s_mv ?_
 refine zC yU22 ?_
 refine s_gt ?_
 refine zf (zd ?_)
 refine zm F0 ?_ ?_<;>intro C1 F1
 refine zM 0 (fun B2=>?_)
 refine za ?_
 refine s_mv ?_
 obtain ⟨v3,V3,F2⟩:=zc F1
 refine s_sl01 rB (fun _=>rfl) V3 yU22 yE22 ?_
 refine s_as ?_
 refine zf (zd (zb (za ?_)))
 refine s_mv ?_
 refine zgD yZ90 yL90 ?_
 refine zaL ?_
 refine s_as ?_
 refine zf (zd (zh (zn ?_)))
 cases F2
 exact zk _ [] Tryz.results29
 refine zi (zd (zb (za ?_)))
 refine s_mv ?_
 refine zgD yZ90 yL90 ?_
 refine zaL ?_
 refine s_as ?_
 refine zf (zd (zh (zn ?_)))
 cases F1
 exact zk _ [] Tryz.results29
def m_spec_l5Texts_AC (fuel:Nat):Prop:=∀  (r:(List (List ByteArray))),zhj fuel =some r→AC Tryz.prog 61 [] noOb (.t (.sl (r.map (rL rS)))) noOb
theorem m_spec_l5Texts_ok (fuel:Nat):m_spec_l5Texts_AC fuel:=by
 intro  r F0
 unfold zhj at F0
 refine AC_i [.t (.sl (r.map (rL rS)))] Tryz.func61 rfl Tryz.ntmps61 ?_
 intro C hC
 refine zb (za ?_)
 refine s_as ?_
 refine zf (zd (zb (za ?_)))
 refine s_bs rS [(⟨#[40,114,117,108,101,115,32,40,41,32,40,40,95,32,97,32,98,41,32,40,108,101,116,32,40,40,116,109,112,32,97,41,41,32,40,108,105,115,116,32,98,32,116,109,112,41,41,41,41]⟩:ByteArray),(⟨#[40,115,119,97,112,32,120,32,121,41]⟩:ByteArray)] yP51 yR9 ?_
 refine s_bs rS [(⟨#[40,114,117,108,101,115,32,40,41,32,40,40,95,41,32,48,41,32,40,40,95,32,97,41,32,97,41,32,40,40,95,32,97,32,98,32,46,46,46,41,32,40,105,102,32,97,32,49,32,40,111,114,32,98,32,46,46,46,41,41,41,41]⟩:ByteArray),(⟨#[40,111,114,32,120,32,121,32,122,41]⟩:ByteArray)] yP51 yR9 ?_
 refine s_bs rS [(⟨#[40,114,117,108,101,115,32,40,41,32,40,40,95,32,40,40,120,32,118,41,32,46,46,46,41,32,98,111,100,121,41,32,40,40,108,97,109,98,100,97,32,40,120,32,46,46,46,41,32,98,111,100,121,41,32,118,32,46,46,46,41,41,41]⟩:ByteArray),(⟨#[40,109,121,108,101,116,32,40,40,112,32,49,41,32,40,113,32,50,41,41,32,40,102,32,112,32,113,41,41]⟩:ByteArray)] yP51 yR9 ?_
 refine s_bs rS [(⟨#[40,114,117,108,101,115,32,40,101,108,115,101,41,32,40,40,95,32,101,108,115,101,32,101,41,32,101,41,32,40,40,95,32,99,32,101,32,114,32,46,46,46,41,32,40,105,102,32,99,32,101,32,40,99,111,110,100,32,114,32,46,46,46,41,41,41,41]⟩:ByteArray),(⟨#[40,99,111,110,100,32,112,32,49,32,101,108,115,101,32,50,41]⟩:ByteArray)] yP51 yR9 ?_
 refine s_bs rS [(⟨#[40,114,117,108,101,115,32,40,41,32,40,40,95,32,40,97,32,98,32,46,46,46,41,32,46,46,46,41,32,40,109,32,40,97,32,46,46,46,41,32,40,40,97,32,98,32,46,46,46,41,32,46,46,46,41,32,49,41,41,41]⟩:ByteArray),(⟨#[40,109,32,40,120,32,49,32,50,41,32,40,121,41,41]⟩:ByteArray)] yP51 yR9 ?_
 refine s_bs rS [(⟨#[40,114,117,108,101,115,32,40,41,32,40,40,95,32,97,32,46,46,46,41,32,40,108,105,115,116,32,97,32,46,46,46,32,97,32,46,46,46,41,41,41]⟩:ByteArray),(⟨#[40,116,119,105,99,101,32,49,32,50,41]⟩:ByteArray)] yP51 yR9 ?_
 refine s_bs rS [(⟨#[40,114,117,108,101,115,32,40,41,32,40,40,95,32,97,32,46,46,46,41,32,40,40,97,32,49,41,32,46,46,46,41,41,32,40,40,95,32,98,41,32,98,41,41]⟩:ByteArray),(⟨#[40,112,97,105,114,115,32,112,32,113,41]⟩:ByteArray)] yP51 yR9 ?_
 refine s_bs rS [(⟨#[40,114,117,108,101,115,32,40,41,32,40,40,95,32,97,41,32,97,41,32,40,40,95,32,53,41,32,54,41,32,40,40,95,32,97,32,98,41,32,98,41,41]⟩:ByteArray),(⟨#[40,107,32,53,41]⟩:ByteArray)] yP51 yR9 ?_
 refine s_bs (rL rS) [[(⟨#[40,114,117,108,101,115,32,40,41,32,40,40,95,32,97,32,98,41,32,40,108,101,116,32,40,40,116,109,112,32,97,41,41,32,40,108,105,115,116,32,98,32,116,109,112,41,41,41,41]⟩:ByteArray),(⟨#[40,115,119,97,112,32,120,32,121,41]⟩:ByteArray)],[(⟨#[40,114,117,108,101,115,32,40,41,32,40,40,95,41,32,48,41,32,40,40,95,32,97,41,32,97,41,32,40,40,95,32,97,32,98,32,46,46,46,41,32,40,105,102,32,97,32,49,32,40,111,114,32,98,32,46,46,46,41,41,41,41]⟩:ByteArray),(⟨#[40,111,114,32,120,32,121,32,122,41]⟩:ByteArray)],[(⟨#[40,114,117,108,101,115,32,40,41,32,40,40,95,32,40,40,120,32,118,41,32,46,46,46,41,32,98,111,100,121,41,32,40,40,108,97,109,98,100,97,32,40,120,32,46,46,46,41,32,98,111,100,121,41,32,118,32,46,46,46,41,41,41]⟩:ByteArray),(⟨#[40,109,121,108,101,116,32,40,40,112,32,49,41,32,40,113,32,50,41,41,32,40,102,32,112,32,113,41,41]⟩:ByteArray)],[(⟨#[40,114,117,108,101,115,32,40,101,108,115,101,41,32,40,40,95,32,101,108,115,101,32,101,41,32,101,41,32,40,40,95,32,99,32,101,32,114,32,46,46,46,41,32,40,105,102,32,99,32,101,32,40,99,111,110,100,32,114,32,46,46,46,41,41,41,41]⟩:ByteArray),(⟨#[40,99,111,110,100,32,112,32,49,32,101,108,115,101,32,50,41]⟩:ByteArray)],[(⟨#[40,114,117,108,101,115,32,40,41,32,40,40,95,32,40,97,32,98,32,46,46,46,41,32,46,46,46,41,32,40,109,32,40,97,32,46,46,46,41,32,40,40,97,32,98,32,46,46,46,41,32,46,46,46,41,32,49,41,41,41]⟩:ByteArray),(⟨#[40,109,32,40,120,32,49,32,50,41,32,40,121,41,41]⟩:ByteArray)],[(⟨#[40,114,117,108,101,115,32,40,41,32,40,40,95,32,97,32,46,46,46,41,32,40,108,105,115,116,32,97,32,46,46,46,32,97,32,46,46,46,41,41,41]⟩:ByteArray),(⟨#[40,116,119,105,99,101,32,49,32,50,41]⟩:ByteArray)],[(⟨#[40,114,117,108,101,115,32,40,41,32,40,40,95,32,97,32,46,46,46,41,32,40,40,97,32,49,41,32,46,46,46,41,41,32,40,40,95,32,98,41,32,98,41,41]⟩:ByteArray),(⟨#[40,112,97,105,114,115,32,112,32,113,41]⟩:ByteArray)],[(⟨#[40,114,117,108,101,115,32,40,41,32,40,40,95,32,97,41,32,97,41,32,40,40,95,32,53,41,32,54,41,32,40,40,95,32,97,32,98,41,32,98,41,41]⟩:ByteArray),(⟨#[40,107,32,53,41]⟩:ByteArray)]] yP83 yR51 ?_
 refine s_as ?_
 refine zf (zd (zh (zn ?_)))
 cases F0
 exact zk [] [9] Tryz.results61
def m_spec_l15Rd_pick_AC (fuel:Nat):Prop:=∀ (o1:zb7) (x2:Int) (r:(Int × zb7)),zar fuel o1 x2=some r→AC Tryz.prog 30 [.rf 9000 0,.t (.sc (.int .i64 x2))] (objs [(9000,.box [.t (.sl (o1.b.map rB)),.t (.sc (.int .i64 o1.p))])]) (.t (.sc (.int .i64 r.1))) (objs [(9000,.box [.t (.sl (r.2.b.map rB)),.t (.sc (.int .i64 r.2.p))])])
theorem zaA (fuel:Nat):m_spec_l15Rd_pick_AC fuel:=by
 intro o1 x2 r F0
 unfold zar at F0
 refine AC_i [.t (.sc (.int .i64 r.1))] Tryz.func30 rfl Tryz.ntmps30 ?_
 intro C hC
 refine zb (za ?_)
 refine s_as ?_
 refine zf (zd (zb (za ?_)))
 refine s_mv ?_
 refine s_mv ?_
 refine s_nc ?_
 refine s_fa yF90_1 ?_
 refine zu yA3 ?_
 refine zJ rfl ?_
 refine s_nc ?_
 refine s_fa yF90_1 ?_
 refine zia yS3 ?_
 refine zf (zd (zb (zb (za ?_))))
 refine s_mv ?_
 refine s_lt ?_
 refine s_mv ?_
 refine zp _ 17 F0 ?_ ?_<;>intro C1 F1
 iterate 6 refine r_no rfl ?_
 refine zA ?_
 refine zf (zd (zT rfl (zb (za ?_))))
 refine s_as ?_
 refine zf (zd (zh (zg (zn ?_))))
 cases F1
 exact zk _ [] Tryz.results30
 refine s_mv ?_
 refine s_nc ?_
 refine s_fa yF90_0 ?_
 refine zu yA22 ?_
 refine zC yU22 ?_
 refine s_eq ?_
 refine zz ?_
 refine zf (zd ?_)
 refine zm F1 ?_ ?_<;>intro C2 F2
 refine zb (za ?_)
 refine s_as ?_
 refine zf (zd (zh (zg (zn ?_))))
 cases F2
 exact zk _ [] Tryz.results30
 refine zi (zd (zb (za ?_)))
 refine s_mv ?_
 refine s_nc ?_
 refine s_fa yF90_1 ?_
 refine zu yA3 ?_
 refine zh9 rfl ?_
 refine s_as ?_
 refine zf (zd (zb (zb (za ?_))))
 refine s_mv ?_
 refine s_mv ?_
 refine s_nc ?_
 refine s_fa yF90_0 ?_
 refine zu yA22 ?_
 refine zC yU22 ?_
 refine s_lt ?_
 refine zf (zd ?_)
 refine zm F2 ?_ ?_<;>intro C3 F3
 refine zb (za ?_)
 refine s_mv ?_
 refine s_nc ?_
 refine s_fa yF90_0 ?_
 refine zu yA22 ?_
 refine s_mv ?_
 obtain ⟨v4,V4,F4⟩:=zc F3
 refine zK rB V4 rfl yE22 ?_
 refine zu yA5 ?_
 refine s_int yU5 yU3 rfl ?_
 refine s_mv ?_
 obtain ⟨hk5,F5⟩:=zad F4
 refine s_rem (h0:=not_zero hk5) ?_
 refine s_as ?_
 refine zf (zd (zh (zg (zn ?_))))
 cases F5
 exact zk _ [] Tryz.results30
 refine zi (zd (zb ?_))
 refine zO yMix (by kernel_rfl) ?_
 refine s_mv ?_
 refine s_nc ?_
 refine s_fa yF90_0 ?_
 refine zu yA22 ?_
 refine s_mv ?_
 refine s_mv ?_
 refine s_nc ?_
 refine s_fa yF90_0 ?_
 refine zu yA22 ?_
 refine zC yU22 ?_
 obtain ⟨hk6,F4⟩:=zad F3
 refine s_rem (h0:=not_zero hk6) ?_
 obtain ⟨v7,V7,F5⟩:=zc F4
 refine zK rB V7 rfl yE22 ?_
 refine zu yA5 ?_
 refine s_int yU5 yU3 rfl ?_
 refine s_mul rfl ?_
 refine s_mv ?_
 refine s_nc ?_
 refine s_fa yF90_0 ?_
 refine zu yA22 ?_
 refine s_mv ?_
 refine s_mul rfl ?_
 refine zJ rfl ?_
 refine s_mv ?_
 refine s_nc ?_
 refine s_fa yF90_0 ?_
 refine zu yA22 ?_
 refine zC yU22 ?_
 obtain ⟨hk8,F6⟩:=zad F5
 refine s_rem (h0:=not_zero hk8) ?_
 obtain ⟨v9,V9,F7⟩:=zc F6
 refine zK rB V9 rfl yE22 ?_
 refine zu yA5 ?_
 refine s_int yU5 yU3 rfl ?_
 refine s_mul rfl ?_
 refine zJ rfl ?_
 refine s_mv ?_
 refine s_mul rfl ?_
 refine zJ rfl ?_
 refine s_mv ?_
 refine s_mv ?_
 refine s_nc ?_
 refine s_fa yF90_0 ?_
 refine zu yA22 ?_
 refine zC yU22 ?_
 obtain ⟨hk10,F8⟩:=zad F7
 refine s_quo (h0:=not_zero hk10) rfl ?_
 refine s_mul rfl ?_
 refine zJ rfl ?_
 refine s_as ?_
 refine zae (by kernel_rfl) ?_
 refine zd (zb (za ?_))
 refine s_mv ?_
 refine s_mv ?_
 refine s_quo rfl ?_
 refine s_xor rfl ?_
 refine s_as ?_
 refine zf (zd (zb (za ?_)))
 refine s_mv ?_
 refine s_mv ?_
 obtain ⟨hk11,F9⟩:=zad F8
 refine s_rem (h0:=not_zero hk11) ?_
 refine s_as ?_
 refine zf (zd (zh (zn ?_)))
 cases F9
 exact zk _ [] Tryz.results30
def m_spec_l1Skip_AC (fuel:Nat):Prop:=∀ (x1:ByteArray) (x2:Int) (r:Int),zfV fuel x1 x2=some r→AC Tryz.prog 153 [.t (.sc (.str x1)),.t (.sc (.int .i64 x2))] noOb (.t (.sc (.int .i64 r))) noOb
theorem zgu (fuel:Nat):m_spec_l1Skip_AC fuel:=by
 intro x1 x2 r F0
 unfold zfV at F0
 refine AC_i [.t (.sc (.int .i64 r))] Tryz.func153 rfl Tryz.ntmps153 ?_
 intro C hC
 refine zb (za ?_)
 refine s_as ?_
 refine zf (zd (zb (zl ?_)))
 refine zaK (β:=Int) [1,5,6,7,8,9,10,11,12,13,14,15,16] [] [] (fun a=>[(1,.t (.sc (.int .i64 a.2)))]) (fun a=>[]) (fun a=>a.1≤fuel∧zeV a.1 x1 a.2=some r) (fuel,x2) ⟨Nat.le_refl _,F0⟩ ?_
 clear F0
 rintro ⟨fu,g1⟩ ⟨hl2,F1⟩
 dsimp only at hl2 F1 ⊢
 obtain _ | fu:=fu
 · rw [zeV] at F1;cases F1
 rw [zeV] at F1
 refine zb (zb (za ?_))
 refine s_mv ?_
 refine s_mv ?_
 refine zfD yU9 ?_
 refine s_lt ?_
 refine s_mv ?_
 refine zp _ 9 F1 ?_ ?_<;>intro C3 F2
 refine s_mv ?_
 refine s_mv ?_
 obtain ⟨v4,V4,F3⟩:=zc F2
 refine s_ixS V4 yU9 ?_
 refine s_eq ?_
 refine zA ?_
 refine zf (zd ?_)
 refine zm F3 ?_ ?_<;>intro C5 F4
 refine zi (zd (zl (za ?_)))
 refine s_mv ?_
 refine zJ rfl ?_
 refine s_as ?_
 refine zf (zW ?_)
 exact s_rn (fu,(w64 (g1+1))) ⟨by first | omega | (dsimp only;omega),F4⟩
 refine zy (zq (zo (zr (zd (zb (za ?_))))))
 refine s_mv ?_
 refine s_as ?_
 refine zf (zd (zh (zn ?_)))
 cases F4
 exact zk [] [] Tryz.results153
 iterate 4 refine r_no rfl ?_
 refine zz ?_
 refine zf (zd (zaX rfl (zy (zq (zo (zr (zd (zb (za ?_)))))))))
 refine s_mv ?_
 refine s_as ?_
 refine zf (zd (zh (zn ?_)))
 cases F2
 exact zk [] [] Tryz.results153
def m_spec_l1Word_AC (fuel:Nat):Prop:=∀ (x1:ByteArray) (x2:Int) (r:Int),zi0 fuel x1 x2=some r→AC Tryz.prog 177 [.t (.sc (.str x1)),.t (.sc (.int .i64 x2))] noOb (.t (.sc (.int .i64 r))) noOb
theorem m_spec_l1Word_ok (fuel:Nat):m_spec_l1Word_AC fuel:=by
 intro x1 x2 r F0
 unfold zi0 at F0
 refine AC_i [.t (.sc (.int .i64 r))] Tryz.func177 rfl Tryz.ntmps177 ?_
 intro C hC
 refine zb (za ?_)
 refine s_as ?_
 refine zf (zd (zb (zl ?_)))
 refine zaK (β:=Int) [1,5,6,7,8,9,10,11,12,13,14,15,16,17,18,19,20,21,22,23,24,25,26,27,28,29,30,31,32,33,34] [] [] (fun a=>[(1,.t (.sc (.int .i64 a.2)))]) (fun a=>[]) (fun a=>a.1≤fuel∧zeU a.1 x1 a.2=some r) (fuel,x2) ⟨Nat.le_refl _,F0⟩ ?_
 clear F0
 rintro ⟨fu,g1⟩ ⟨hl2,F1⟩
 dsimp only at hl2 F1 ⊢
 obtain _ | fu:=fu
 · rw [zeU] at F1;cases F1
 rw [zeU] at F1
 refine zb (zb (za ?_))
 refine s_mv ?_
 refine s_mv ?_
 refine zfD yU9 ?_
 refine s_lt ?_
 refine s_mv ?_
 refine zp _ 9 F1 ?_ ?_<;>intro C3 F2
 refine s_mv ?_
 refine s_mv ?_
 obtain ⟨v4,V4,F3⟩:=zc F2
 refine s_ixS V4 yU9 ?_
 refine s_ne ?_
 refine zA ?_
 refine s_mv ?_
 refine zp _ 15 F3 ?_ ?_<;>intro C5 F4
 refine s_mv ?_
 refine s_mv ?_
 obtain ⟨v6,V6,F5⟩:=zc F4
 refine s_ixS V6 yU9 ?_
 refine s_ne ?_
 refine zA ?_
 refine s_mv ?_
 refine zp _ 21 F5 ?_ ?_<;>intro C7 F6
 refine s_mv ?_
 refine s_mv ?_
 obtain ⟨v8,V8,F7⟩:=zc F6
 refine s_ixS V8 yU9 ?_
 refine s_ne ?_
 refine zA ?_
 refine s_mv ?_
 refine zp _ 27 F7 ?_ ?_<;>intro C9 F8
 refine s_mv ?_
 refine s_mv ?_
 obtain ⟨v10,V10,F9⟩:=zc F8
 refine s_ixS V10 yU9 ?_
 refine s_ne ?_
 refine zA ?_
 refine zf (zd ?_)
 refine zm F9 ?_ ?_<;>intro C11 F10
 refine zi (zd (zl (za ?_)))
 refine s_mv ?_
 refine zJ rfl ?_
 refine s_as ?_
 refine zf (zW ?_)
 exact s_rn (fu,(w64 (g1+1))) ⟨by first | omega | (dsimp only;omega),F10⟩
 refine zy (zq (zo (zr (zd (zb (za ?_))))))
 refine s_mv ?_
 refine s_as ?_
 refine zf (zd (zh (zn ?_)))
 cases F10
 exact zk [] [] Tryz.results177
 iterate 4 refine r_no rfl ?_
 refine zz ?_
 refine zf (zd (zaX rfl (zy (zq (zo (zr (zd (zb (za ?_)))))))))
 refine s_mv ?_
 refine s_as ?_
 refine zf (zd (zh (zn ?_)))
 cases F8
 exact zk [] [] Tryz.results177
 iterate 4 refine r_no rfl ?_
 refine zz ?_
 refine s_mv ?_
 iterate 4 refine r_no rfl ?_
 refine zz ?_
 refine zf (zd (zaX rfl (zy (zq (zo (zr (zd (zb (za ?_)))))))))
 refine s_mv ?_
 refine s_as ?_
 refine zf (zd (zh (zn ?_)))
 cases F6
 exact zk [] [] Tryz.results177
 iterate 4 refine r_no rfl ?_
 refine zz ?_
 refine s_mv ?_
 iterate 4 refine r_no rfl ?_
 refine zz ?_
 refine s_mv ?_
 iterate 4 refine r_no rfl ?_
 refine zz ?_
 refine zf (zd (zaX rfl (zy (zq (zo (zr (zd (zb (za ?_)))))))))
 refine s_mv ?_
 refine s_as ?_
 refine zf (zd (zh (zn ?_)))
 cases F4
 exact zk [] [] Tryz.results177
 iterate 4 refine r_no rfl ?_
 refine zz ?_
 refine s_mv ?_
 iterate 4 refine r_no rfl ?_
 refine zz ?_
 refine s_mv ?_
 iterate 4 refine r_no rfl ?_
 refine zz ?_
 refine s_mv ?_
 iterate 4 refine r_no rfl ?_
 refine zz ?_
 refine zf (zd (zaX rfl (zy (zq (zo (zr (zd (zb (za ?_)))))))))
 refine s_mv ?_
 refine s_as ?_
 refine zf (zd (zh (zn ?_)))
 cases F2
 exact zk [] [] Tryz.results177
def m_spec_l15Num_AC (fuel:Nat):Prop:=∀ (x1:ByteArray) (r:(Int × Bool)),zhP fuel x1=some r→AC Tryz.prog 178 [.t (.sc (.str x1))] noOb (.tp [.t (.sc (.int .i64 r.1)),.t (.sc (.bool r.2))]) noOb
theorem m_spec_l15Num_ok (fuel:Nat):m_spec_l15Num_AC fuel:=by
 intro x1 r F0
 unfold zhP at F0
 refine AC_i [.t (.sc (.int .i64 r.1)),.t (.sc (.bool r.2))] Tryz.func178 rfl Tryz.ntmps178 ?_
 intro C hC
 refine zb (za ?_)
 refine s_as ?_
 refine s_as ?_
 refine zf (zd ?_)
 refine zbb (α:=Nat × Bool) [4,7,8,9,10,11,12,13,14] [] [] (fun a=>[(4,.t (.sc (.bool a.2)))]) (fun a=>[]) (fun a=>a.1≤fuel∧ze8 a.1 x1 a.2=some r) ?_ ?_
 refine za ?_
 refine s_mv ?_
 refine zfD yU9 ?_
 refine s_gt ?_
 refine s_mv ?_
 refine zp _ 10 F0 ?_ ?_<;>intro C1 F1
 refine s_mv ?_
 obtain ⟨v2,V2,F2⟩:=zc F1
 refine s_ixS V2 yU9 ?_
 refine s_eq ?_
 refine zA ?_
 refine s_as ?_
 refine zf ?_
 exact s_jn (fuel,(decide (v2=45))) ⟨by first | omega | (dsimp only;omega),F2⟩
 iterate 3 refine r_no rfl ?_
 refine zz ?_
 refine s_as ?_
 refine zf ?_
 exact s_jn (fuel,false) ⟨by first | omega | (dsimp only;omega),F1⟩
 clear F0
 rintro ⟨fu,g3⟩ ⟨hl4,F1⟩
 dsimp only at hl4 F1 ⊢
 obtain _ | fu:=fu
 · rw [ze8] at F1;cases F1
 rw [ze8] at F1
 refine zbb (α:=Nat × ByteArray) [0,15,16,17] [] [] (fun a=>[(0,.t (.sc (.str a.2)))]) (fun a=>[]) (fun a=>a.1≤fu∧ze7 a.1 g3 a.2=some r) ?_ ?_
 refine zb (za ?_)
 refine s_mv ?_
 refine zf (zd ?_)
 refine zm F1 ?_ ?_<;>intro C5 F2
 refine za ?_
 refine s_mv ?_
 obtain ⟨v6,V6,F3⟩:=zc F2
 refine s_ss10 V6 yU9 ?_
 refine s_as ?_
 refine zf ?_
 exact s_jn (fu,v6) ⟨by first | omega | (dsimp only;omega),F3⟩
 refine zi ?_
 exact s_jn (fu,x1) ⟨by first | omega | (dsimp only;omega),F2⟩
 clear F1
 rintro ⟨fu,g7⟩ ⟨hl8,F2⟩
 dsimp only at hl8 F2 ⊢
 obtain _ | fu:=fu
 · rw [ze7] at F2;cases F2
 rw [ze7] at F2
 refine zbb (α:=Nat) [2,3,18,19,20,21,22,23,24,25,26,27,28,29,30,31,32,33,34,35,36,37,38] [] [] (fun a=>[]) (fun a=>[]) (fun a=>a≤fu∧ze6 a g3 g7 =some r) ?_ ?_
 refine zb (za ?_)
 refine s_mv ?_
 refine zfD yU9 ?_
 refine s_eq ?_
 refine s_mv ?_
 refine zp _ 21 F2 ?_ ?_<;>intro C9 F3
 iterate 3 refine r_no rfl ?_
 refine zA ?_
 refine s_mv ?_
 iterate 11 refine r_no rfl ?_
 refine zA ?_
 refine zf (zd (zT rfl (zb (za ?_))))
 refine s_as ?_
 refine s_as ?_
 refine zf (zd (zh (zew (zn ?_))))
 cases F3
 exact zk [] [] Tryz.results178
 refine s_mv ?_
 refine zfD yU9 ?_
 refine s_gt ?_
 refine zz ?_
 refine s_mv ?_
 refine zp _ 26 F3 ?_ ?_<;>intro C10 F4
 iterate 11 refine r_no rfl ?_
 refine zA ?_
 refine zf (zd (zT rfl (zb (za ?_))))
 refine s_as ?_
 refine s_as ?_
 refine zf (zd (zh (zew (zn ?_))))
 cases F4
 exact zk [] [] Tryz.results178
 refine s_mv ?_
 obtain ⟨v11,V11,F5⟩:=zc F4
 refine s_ixS V11 yU9 ?_
 refine s_eq ?_
 refine s_mv ?_
 refine zp _ 30 F5 ?_ ?_<;>intro C12 F6
 refine s_mv ?_
 refine zfD yU9 ?_
 refine s_gt ?_
 refine s_mv ?_
 refine zp _ 34 F6 ?_ ?_<;>intro C13 F7
 refine r_no rfl ?_
 refine zA ?_
 refine zA ?_
 refine zz ?_
 refine zf (zd (zT rfl (zb (za ?_))))
 refine s_as ?_
 refine s_as ?_
 refine zf (zd (zh (zew (zn ?_))))
 cases F7
 exact zk [] [] Tryz.results178
 refine s_mv ?_
 refine zz ?_
 refine zA ?_
 refine zz ?_
 refine zf (zd ?_)
 refine zm F7 ?_ ?_<;>intro C14 F8
 refine zb (za ?_)
 refine s_as ?_
 refine s_as ?_
 refine zf (zd (zh (zew (zn ?_))))
 cases F8
 exact zk [] [] Tryz.results178
 refine zi ?_
 exact s_jn (fu) ⟨by first | omega | (dsimp only;omega),F8⟩
 iterate 6 refine r_no rfl ?_
 refine zz ?_
 refine zz ?_
 refine zf (zd (zaX rfl (zi ?_)))
 exact s_jn (fu) ⟨by first | omega | (dsimp only;omega),F6⟩
 clear F2
 rintro fu ⟨hl15,F3⟩
 obtain _ | fu:=fu
 · rw [ze6] at F3;cases F3
 rw [ze6] at F3
 refine zb (za ?_)
 refine s_as ?_
 refine zf (zd (zb (zb (za ?_))))
 refine s_as ?_
 refine zf (zd (zl ?_))
 refine zaK (β:=Int × Int) [2,3,5,6,39,40,41,42,43,44,45,46,47,48,49,50,51,52,53,54,55,56,57,58,59,60,61,62] [] [] (fun a=>[(5,.t (.sc (.int .i64 a.2.1))),(6,.t (.sc (.int .i64 a.2.2)))]) (fun a=>[]) (fun a=>a.1≤fu∧ze4 a.1 g3 g7 a.2.1 a.2.2=some r) (fu,0,0) ⟨Nat.le_refl _,F3⟩ ?_
 clear F3
 rintro ⟨fu,g16,g17⟩ ⟨hl18,F4⟩
 dsimp only at hl18 F4 ⊢
 obtain _ | fu:=fu
 · rw [ze4] at F4;cases F4
 rw [ze4] at F4
 refine zb (zb (za ?_))
 refine s_mv ?_
 refine s_mv ?_
 refine zfD yU9 ?_
 refine s_lt ?_
 refine zf (zd ?_)
 refine zm F4 ?_ ?_<;>intro C19 F5
 refine zi (zd (zb (zl (zb ?_))))
 refine zbb (α:=Nat × Bool) [45,46,47,48,49,50,51,52,53,54] [] [] (fun a=>[(54,.t (.sc (.bool a.2)))]) (fun a=>[]) (fun a=>a.1≤fu∧ze5 a.1 g3 g7 g16 g17 a.2=some r) ?_ ?_
 refine za ?_
 refine s_mv ?_
 refine s_mv ?_
 obtain ⟨v20,V20,F6⟩:=zc F5
 refine s_ixS V20 yU9 ?_
 refine s_lt ?_
 refine s_mv ?_
 refine zp _ 49 F6 ?_ ?_<;>intro C21 F7
 iterate 4 refine r_no rfl ?_
 refine zA ?_
 refine zf ?_
 exact s_jn (fu,true) ⟨by first | omega | (dsimp only;omega),F7⟩
 refine s_mv ?_
 refine s_mv ?_
 obtain ⟨v22,V22,F8⟩:=zc F7
 refine s_ixS V22 yU9 ?_
 refine s_gt ?_
 refine zz ?_
 refine zf ?_
 exact s_jn (fu,(decide (57 < v22))) ⟨by first | omega | (dsimp only;omega),F8⟩
 clear F5
 rintro ⟨fu,g23⟩ ⟨hl24,F6⟩
 dsimp only at hl24 F6 ⊢
 obtain _ | fu:=fu
 · rw [ze5] at F6;cases F6
 rw [ze5] at F6
 refine zm F6 ?_ ?_<;>intro C25 F7
 refine zb (za ?_)
 refine s_as ?_
 refine s_as ?_
 refine zf (zd (zh (zg (zj (zg (zw (zj (zg (zn ?_)))))))))
 cases F7
 exact zk [] [] Tryz.results178
 refine zi (zd (za ?_))
 refine s_mv ?_
 refine s_mul rfl ?_
 refine s_mv ?_
 refine s_mv ?_
 obtain ⟨v26,V26,F8⟩:=zc F7
 refine s_ixS V26 yU9 ?_
 refine zh9 rfl ?_
 refine s_int yU5 yU3 rfl ?_
 refine zJ rfl ?_
 refine s_as ?_
 refine zf (zW (zd (za ?_)))
 refine s_mv ?_
 refine zJ rfl ?_
 refine s_as ?_
 refine zf ?_
 exact s_rn (fu,(w64 ((w64 (g16*10))+(w64 (w8 (v26-48))))),(w64 (g17+1))) ⟨by first | omega | (dsimp only;omega),F8⟩
 refine zy (zq (zo (zr (zd (zb (zb (za ?_)))))))
 refine s_mv ?_
 refine zf (zd ?_)
 refine zm F5 ?_ ?_<;>intro C27 F6
 refine za ?_
 refine s_mv ?_
 refine s_neg rfl ?_
 refine s_as ?_
 refine zf (zd (zb (za ?_)))
 refine s_mv ?_
 refine s_as ?_
 refine s_as ?_
 refine zf (zd (zh (zn ?_)))
 cases F6
 exact zk [] [] Tryz.results178
 refine zi (zd (zb (za ?_)))
 refine s_mv ?_
 refine s_as ?_
 refine s_as ?_
 refine zf (zd (zh (zn ?_)))
 cases F6
 exact zk [] [] Tryz.results178
def m_spec_l15Cut_AC (fuel:Nat):Prop:=∀ (x1:ByteArray) (x2:Int) (r:(List ByteArray)),zi3 fuel x1 x2=some r→AC Tryz.prog 183 [.t (.sc (.str x1)),.t (.sc (.int .u8 x2))] noOb (.t (.sl (r.map rS))) noOb
theorem m_spec_l15Cut_ok (fuel:Nat):m_spec_l15Cut_AC fuel:=by
 intro x1 x2 r F0
 unfold zi3 at F0
 refine AC_i [.t (.sl (r.map rS))] Tryz.func183 rfl Tryz.ntmps183 ?_
 intro C hC
 refine zb (za ?_)
 refine s_as ?_
 refine zf (zd (zb (za ?_)))
 refine s_bs rS ([]:List ByteArray) yP51 yR9 ?_
 refine s_as ?_
 refine zf (zd (zb (za ?_)))
 refine s_as ?_
 refine zf (zd (zb (zb (za ?_))))
 refine s_as ?_
 refine zf (zd (zl ?_))
 refine zcZ 5 8 5020 (by conv=>lhs;whnf) (by conv=>lhs;whnf) rfl ?_
 refine zal [5,6,7,9,10,11,12,13,14,15,16,17,18,19,20,21,22,23,24,25,26,27,28,29,30,31,32,33,34] [5020] [31,32] [5020] (fun a:Nat × (List ByteArray) × Int × Int=>a.1) (fun a:Nat × (List ByteArray) × Int × Int=>[(5,.ar 5020),(6,.t (.sc (.int .i64 a.2.2.1))),(7,.t (.sc (.int .i64 a.2.2.2)))]) (fun a:Nat × (List ByteArray) × Int × Int=>[(5020,.arr (a.2.1.map rS) 9 true)]) (fun a:Nat × (List ByteArray) × Int × Int=>a.1≤fuel∧zd8 a.1 x1 x2 a.2.1 a.2.2.1 a.2.2.2=some r) (fuel,([]:List ByteArray),0,0) ⟨Nat.le_refl _,F0⟩ (by rfl) (by rfl) (fun _=>rfl) (zH (by conv=>lhs;whnf) (by rfl) (zH (by conv=>lhs;whnf) (by rfl) (zH (by conv=>lhs;whnf) (by rfl) zaV))) (zL (by conv=>lhs;whnf) (by rfl) zaG) (zbM hC rfl) (by repeat (first | exact z6 rfl | refine zaj rfl ?_ | refine zP rfl ?_)) (by repeat (first | exact zax | exact z9 rfl | refine zak rfl ?_ | refine zQ rfl ?_)) ?_
 clear F0
 rintro ⟨fu,g1,g2,g3⟩ ⟨hl4,F1⟩
 dsimp only at hl4 F1 ⊢
 obtain _ | fu:=fu
 · rw [zd8] at F1;cases F1
 rw [zd8] at F1
 refine zb (zb (za ?_))
 refine s_mv ?_
 refine s_mv ?_
 refine zfD yU9 ?_
 refine s_le ?_
 refine zf (zd ?_)
 refine zm F1 ?_ ?_<;>intro C5 F2
 refine zi (zd (zb (zl ?_)))
 refine zbb (α:=Nat × Bool) [15,16,17,18,19,20,21,22,23,24,25] [] [] (fun a=>[(25,.t (.sc (.bool a.2)))]) (fun a=>[]) (fun a=>a.1≤fu∧ze9 a.1 x1 x2 g1 g2 g3 a.2=some r) ?_ ?_
 refine za ?_
 refine s_mv ?_
 refine s_mv ?_
 refine zfD yU9 ?_
 refine s_eq ?_
 refine s_mv ?_
 refine zp _ 19 F2 ?_ ?_<;>intro C6 F3
 iterate 5 refine r_no rfl ?_
 refine zA ?_
 refine zf ?_
 exact s_jn (fu,true) ⟨by first | omega | (dsimp only;omega),F3⟩
 refine s_mv ?_
 refine s_mv ?_
 obtain ⟨v7,V7,F4⟩:=zc F3
 refine s_ixS V7 yU9 ?_
 refine s_mv ?_
 refine s_eq ?_
 refine zz ?_
 refine zf ?_
 exact s_jn (fu,(decide (v7=x2))) ⟨by first | omega | (dsimp only;omega),F4⟩
 clear F2
 rintro ⟨fu,g8⟩ ⟨hl9,F3⟩
 dsimp only at hl9 F3 ⊢
 obtain _ | fu:=fu
 · rw [ze9] at F3;cases F3
 rw [ze9] at F3
 refine zm F3 ?_ ?_<;>intro C10 F4
 refine zb (za ?_)
 iterate 4 refine s_mv ?_
 obtain ⟨v11,V11,F5⟩:=zc F4
 refine s_ss11 V11 yU9 ?_
 refine s_bs rS [v11] yP51 yR9 ?_
 obtain ⟨hk12,F6⟩:=zad F5
 refine zek rS (fun _=>rfl) hk12 yP51 ?_
 refine s_as ?_
 refine zf (zd (za ?_))
 refine s_mv ?_
 refine zJ rfl ?_
 refine s_as ?_
 refine zf (zW (zd (za ?_)))
 refine s_mv ?_
 refine zJ rfl ?_
 refine s_as ?_
 refine zf ?_
 exact s_rn (fu,(g1++[v11]),(w64 (g3+1)),(w64 (g3+1))) ⟨by first | omega | (dsimp only;omega),F6⟩ [(5020,32)]
 refine zi (zW (zd (za ?_)))
 refine s_mv ?_
 refine zJ rfl ?_
 refine s_as ?_
 refine zf ?_
 exact s_rn (fu,g1,g2,(w64 (g3+1))) ⟨by first | omega | (dsimp only;omega),F4⟩
 refine zy (zq (zo (zr (zd (zb (za ?_))))))
 refine s_mv ?_
 refine s_as ?_
 refine zf (zd (zh (zn ?_)))
 cases F2
 exact zk [] [5020] Tryz.results183
def m_spec_l1Sets_AC (fuel:Nat):Prop:=∀ (x1:ByteArray) (x2:Int) (r:((List Int) × Int)),zi1 fuel x1 x2=some r→AC Tryz.prog 179 [.t (.sc (.str x1)),.t (.sc (.int .i64 x2))] noOb (.tp [.t (.sl (r.1.map rI)),.t (.sc (.int .i64 r.2))]) noOb
theorem m_spec_l1Sets_ok (fuel:Nat):m_spec_l1Sets_AC fuel:=by
 intro x1 x2 r F0
 unfold zi1 at F0
 refine AC_i [.t (.sl (r.1.map rI)),.t (.sc (.int .i64 r.2))] Tryz.func179 rfl Tryz.ntmps179 ?_
 intro C hC
 refine zb (za ?_)
 refine s_as ?_
 refine s_as ?_
 refine zf (zd (zb (za ?_)))
 refine s_bs rI ([]:List Int) yP27 yR3 ?_
 refine s_as ?_
 refine zf (zd (zb ?_))
 refine zbb (α:=Nat × Bool) [13,14,15,16,17,18,19,20,21,22] [] [] (fun a=>[(22,.t (.sc (.bool a.2)))]) (fun a=>[]) (fun a=>a.1≤fuel∧ze0 a.1 x1 x2 a.2=some r) ?_ ?_
 refine za ?_
 refine s_mv ?_
 refine s_mv ?_
 refine zfD yU9 ?_
 refine s_ge ?_
 refine s_mv ?_
 refine zp _ 17 F0 ?_ ?_<;>intro C1 F1
 iterate 4 refine r_no rfl ?_
 refine zA ?_
 refine zf ?_
 exact s_jn (fuel,true) ⟨by first | omega | (dsimp only;omega),F1⟩
 refine s_mv ?_
 refine s_mv ?_
 obtain ⟨v2,V2,F2⟩:=zc F1
 refine s_ixS V2 yU9 ?_
 refine s_ne ?_
 refine zz ?_
 refine zf ?_
 exact s_jn (fuel,(decide (v2≠123))) ⟨by first | omega | (dsimp only;omega),F2⟩
 clear F0
 rintro ⟨fu,g3⟩ ⟨hl4,F1⟩
 dsimp only at hl4 F1 ⊢
 obtain _ | fu:=fu
 · rw [ze0] at F1;cases F1
 rw [ze0] at F1
 refine zm F1 ?_ ?_<;>intro C5 F2
 refine zb (za ?_)
 refine s_mv ?_
 refine s_mv ?_
 refine s_as ?_
 refine s_as ?_
 refine zf (zd (zh (zg (zn ?_))))
 cases F2
 exact zk [] [12] Tryz.results179
 refine zi (zd (zb (za ?_)))
 refine s_mv ?_
 refine s_as ?_
 refine zf (zd ?_)
 refine zbb (α:=Nat × Int) [7,26,27,28,29,30,31,32,33,34,35,36,37] [] [] (fun a=>[(7,.t (.sc (.int .i64 a.2)))]) (fun a=>[]) (fun a=>a.1≤fu∧zeZ a.1 x1 x2 a.2=some r) ?_ ?_
 refine zl ?_
 refine zaK (β:=Int) [7,26,27,28,29,30,31,32,33,34,35,36,37] [] [] (fun a=>[(7,.t (.sc (.int .i64 a.2)))]) (fun a=>[]) (fun a=>a.1≤fu∧zeX a.1 x1 x2 a.2=some r) (fu,x2) ⟨Nat.le_refl _,F2⟩ ?_
 clear F2
 rintro ⟨fu,g6⟩ ⟨hl7,F3⟩
 dsimp only at hl7 F3 ⊢
 obtain _ | fu:=fu
 · rw [zeX] at F3;cases F3
 rw [zeX] at F3
 refine zb (zb (za ?_))
 refine s_mv ?_
 refine s_mv ?_
 refine zfD yU9 ?_
 refine s_lt ?_
 refine s_mv ?_
 refine zp _ 30 F3 ?_ ?_<;>intro C8 F4
 refine s_mv ?_
 refine s_mv ?_
 obtain ⟨v9,V9,F5⟩:=zc F4
 refine s_ixS V9 yU9 ?_
 refine s_ne ?_
 refine zA ?_
 refine zf (zd ?_)
 refine zm F5 ?_ ?_<;>intro C10 F6
 refine zi (zd (zl (za ?_)))
 refine s_mv ?_
 refine zJ rfl ?_
 refine s_as ?_
 refine zf (zW ?_)
 exact s_rn (fu,(w64 (g6+1))) ⟨by first | omega | (dsimp only;omega),F6⟩
 refine zy (zq (zo (zr ?_)))
 exact s_jn (fu,g6) ⟨by first | omega | (dsimp only;omega),F6⟩
 iterate 4 refine r_no rfl ?_
 refine zz ?_
 refine zf (zd (zaX rfl (zy (zq (zo (zr ?_))))))
 exact s_jn (fu,g6) ⟨by first | omega | (dsimp only;omega),F4⟩
 clear F2
 rintro ⟨fu,g11⟩ ⟨hl12,F3⟩
 dsimp only at hl12 F3 ⊢
 obtain _ | fu:=fu
 · rw [zeZ] at F3;cases F3
 rw [zeZ] at F3
 refine zb (zb (za ?_))
 refine s_mv ?_
 refine s_mv ?_
 refine zfD yU9 ?_
 refine s_eq ?_
 refine zf (zd ?_)
 refine zm F3 ?_ ?_<;>intro C13 F4
 refine zb (za ?_)
 refine s_mv ?_
 refine s_as ?_
 refine s_as ?_
 refine zf (zd (zh (zg (zn ?_))))
 cases F4
 exact zk [] [12] Tryz.results179
 refine zi (zd (zb (za ?_)))
 refine s_mv ?_
 refine s_mv ?_
 refine zJ rfl ?_
 refine s_mv ?_
 obtain ⟨v14,V14,F5⟩:=zc F4
 refine s_ss11 V14 yU9 ?_
 obtain ⟨v15,V15,F6⟩:=zc F5
 refine zv [] (m_spec_l15Cut_ok fu _ _ _ V15) ?_
 refine s_as ?_
 refine zf (zd (zb (zb (za ?_))))
 refine s_as ?_
 refine zf (zd (zl ?_))
 refine zcZ 6 12 5080 (by conv=>lhs;whnf) (by conv=>lhs;whnf) rfl ?_
 refine zal [4,5,6,9,10,11,49,50,51,52,53,54,55,56,57,58,59,60,61,62,63,64,65,66,67,68,69,70,71,72,73] [5080] [72,73] [5080] (fun a:Nat × (List Int) × Int=>a.1) (fun a:Nat × (List Int) × Int=>[(6,.ar 5080),(9,.t (.sc (.int .i64 a.2.2)))]) (fun a:Nat × (List Int) × Int=>[(5080,.arr (a.2.1.map rI) 3 true)]) (fun a:Nat × (List Int) × Int=>a.1≤fu∧zeW a.1 g11 v15 a.2.1 a.2.2=some r) (fu,([]:List Int),0) ⟨Nat.le_refl _,F6⟩ (by rfl) (by rfl) (fun _=>rfl) (zH (by conv=>lhs;whnf) (by rfl) (zH (by conv=>lhs;whnf) (by rfl) zaV)) (zL (by conv=>lhs;whnf) (by rfl) zaG) (zbM hC rfl) (by repeat (first | exact z6 rfl | refine zaj rfl ?_ | refine zP rfl ?_)) (by repeat (first | exact zax | exact z9 rfl | refine zak rfl ?_ | refine zQ rfl ?_)) ?_
 clear F6
 rintro ⟨fu,g16,g17⟩ ⟨hl18,F7⟩
 dsimp only at hl18 F7 ⊢
 obtain _ | fu:=fu
 · rw [zeW] at F7;cases F7
 rw [zeW] at F7
 refine zb ?_
 refine zbb (α:=Nat × Bool) [49,50,51,52,53,54,55,56] [] [] (fun a=>[(56,.t (.sc (.bool a.2)))]) (fun a=>[]) (fun a=>a.1≤fu∧zeY a.1 g11 v15 g16 g17 a.2=some r) ?_ ?_
 refine za ?_
 refine s_mv ?_
 refine s_mv ?_
 refine zC yU51 ?_
 refine s_lt ?_
 refine s_mv ?_
 refine zp _ 53 F7 ?_ ?_<;>intro C19 F8
 refine s_mv ?_
 refine s_le ?_
 refine zA ?_
 refine zf ?_
 exact s_jn (fu,(decide (g17≤24))) ⟨by first | omega | (dsimp only;omega),F8⟩
 refine r_no rfl (r_no rfl ?_)
 refine zz ?_
 refine zf ?_
 exact s_jn (fu,false) ⟨by first | omega | (dsimp only;omega),F8⟩
 clear F7
 rintro ⟨fu,g20⟩ ⟨hl21,F8⟩
 dsimp only at hl21 F8 ⊢
 obtain _ | fu:=fu
 · rw [zeY] at F8;cases F8
 rw [zeY] at F8
 refine zm F8 ?_ ?_<;>intro C22 F9
 refine zi (zd (zb (zl (zb (za ?_)))))
 refine s_mv ?_
 refine s_mv ?_
 obtain ⟨v23,V23,F10⟩:=zc F9
 refine zK rS V23 rfl yE51 ?_
 refine zu yA9 ?_
 obtain ⟨v24,V24,F11⟩:=zc F10
 refine zv [] (m_spec_l15Num_ok fu _ _ V24) ?_
 refine s_mv ?_
 refine zbf ?_
 refine zbf ?_
 refine s_as ?_
 refine s_as ?_
 refine zf (zd (zb (zb (za ?_))))
 refine s_mv ?_
 refine zaY ?_
 refine zf (zd ?_)
 refine zm F11 ?_ ?_<;>intro C25 F12
 refine zb (za ?_)
 refine s_mv ?_
 refine s_as ?_
 refine s_as ?_
 refine zf (zd (zh (zg (zj (zg (zw (zj (zg (zn ?_)))))))))
 cases F12
 exact zk [] [5080] Tryz.results179
 refine zi (zd (za ?_))
 refine s_mv ?_
 refine s_mv ?_
 refine s_bs rI [v24.1] yP27 yR3 ?_
 obtain ⟨hk26,F13⟩:=zad F12
 refine zek rI (fun _=>rfl) hk26 yP27 ?_
 refine s_as ?_
 refine zf (zW (zd (za ?_)))
 refine s_mv ?_
 refine zJ rfl ?_
 refine s_as ?_
 refine zf ?_
 exact s_rn (fu,(g16++[v24.1]),(w64 (g17+1))) ⟨by first | omega | (dsimp only;omega),F13⟩ [(5080,73)]
 refine zy (zq (zo (zr (zd (zb (za ?_))))))
 refine s_mv ?_
 refine s_mv ?_
 refine zJ rfl ?_
 refine s_as ?_
 refine s_as ?_
 refine zf (zd (zh (zn ?_)))
 cases F9
 exact zk [] [5080] Tryz.results179
def m_spec_l1Atom_AC (fuel:Nat):Prop:=∀ (x1:ByteArray) (x2:Int) (r:(Form × Int)),zi2 fuel x1 x2=some r→AC Tryz.prog 167 [.t (.sc (.str x1)),.t (.sc (.int .i64 x2))] noOb (.tp [.ag [.t (.sc (.int .i64 r.1.kind)),.t (.sc (.str r.1.name)),.t (.sc (.int .i64 r.1.n)),.t (.sl (r.1.scopes.map rI)),.t (.sl (r.1.kids.map Form.row))],.t (.sc (.int .i64 r.2))]) noOb
theorem m_spec_l1Atom_ok (fuel:Nat):m_spec_l1Atom_AC fuel:=by
 intro x1 x2 r F0
 unfold zi2 at F0
 refine AC_i [.ag [.t (.sc (.int .i64 r.1.kind)),.t (.sc (.str r.1.name)),.t (.sc (.int .i64 r.1.n)),.t (.sl (r.1.scopes.map rI)),.t (.sl (r.1.kids.map Form.row))],.t (.sc (.int .i64 r.2))] Tryz.func167 rfl Tryz.ntmps167 ?_
 intro C hC
 refine zb (za ?_)
 refine zU yZ32 ?_
 refine s_as ?_
 refine zf (zd (zb (za ?_)))
 refine s_mv ?_
 refine s_mv ?_
 obtain ⟨v1,V1,F1⟩:=zc F0
 refine zv [] (m_spec_l1Word_ok fuel _ _ _ V1) ?_
 refine s_as ?_
 refine zf (zd (zb (za ?_)))
 iterate 3 refine s_mv ?_
 obtain ⟨v2,V2,F2⟩:=zc F1
 refine s_ss11 V2 yU9 ?_
 refine s_as ?_
 refine zf (zd (zb (za ?_)))
 refine s_mv ?_
 obtain ⟨v3,V3,F3⟩:=zc F2
 refine zv [] (m_spec_l15Num_ok fuel _ _ V3) ?_
 refine s_mv ?_
 refine zbf ?_
 refine zbf ?_
 refine s_as ?_
 refine s_as ?_
 refine zf (zd (zb (zb (za ?_))))
 refine s_mv ?_
 refine zf (zd ?_)
 refine zm F3 ?_ ?_<;>intro C4 F4
 refine zb (za ?_)
 refine s_mv ?_
 refine zgD yZ32 yL32 ?_
 refine s_mv ?_
 refine zac yS32 ?_
 refine s_as ?_
 refine zf (zd (zh (zg (zn ?_))))
 cases F4
 exact z4 [] [] (by rw [Tryz.results167];exact (zat (by conv=>lhs;whnf) (by conv=>lhs;whnf) yA32 yS32 rfl (zai (by conv=>lhs;whnf) zaf)))
 refine zi (zd (zb (zb (za ?_))))
 refine s_mv ?_
 refine zhr ?_
 refine zf (zd ?_)
 refine zm F4 ?_ ?_<;>intro C5 F5
 refine zb (za ?_)
 refine zgD yZ32 yL32 ?_
 refine zac yS32 ?_
 refine s_as ?_
 refine zf (zd (zh (zg (zn ?_))))
 cases F5
 exact z4 [] [] (by rw [Tryz.results167];exact (zat (by conv=>lhs;whnf) (by conv=>lhs;whnf) yA32 yS32 rfl (zai (by conv=>lhs;whnf) zaf)))
 refine zi (zd (zb (za ?_)))
 refine s_mv ?_
 refine s_mv ?_
 obtain ⟨v6,V6,F6⟩:=zc F5
 refine zv [] (m_spec_l1Sets_ok fuel _ _ _ V6) ?_
 refine s_mv ?_
 refine zbf ?_
 refine zbf ?_
 refine s_as ?_
 refine s_as ?_
 refine zf (zd (zb (za ?_)))
 refine s_mv ?_
 refine s_mv ?_
 refine zgD yZ32 yL32 ?_
 refine s_mv ?_
 refine zac yS32 ?_
 refine s_as ?_
 refine zf (zd (zh (zn ?_)))
 cases F6
 exact z4 [] [] (by rw [Tryz.results167];exact (zat (by conv=>lhs;whnf) (by conv=>lhs;whnf) yA32 yS32 rfl (zai (by conv=>lhs;whnf) zaf)))
end Go.Abs
