/- A part of the proof: what the functions that the law calls answer, as pure values. -/
import Derived.Test.YtpdacpnncmemgaaGreatKa647db9ee9e6
import Derived.Test.YtpdacpnncmemgaaGreatK57e2d81719e9
import Derived.Test.YtpdacpnncmemgaaGreatKfaf2dbb53499
set_option linter.unusedSimpArgs false
set_option linter.unusedVariables false
set_option maxRecDepth 100000
set_option maxHeartbeats 4000000
namespace Go.Abs
open Go.Proofs
def m_spec_l15Open_AC (fuel:Nat):Prop:=∀ (x1:(List Int)) (r:zbY),zeI fuel x1=some r→AC Tryz.prog 24 [.t (.sl (x1.map rB))] (objs []) (.rf 10 0) (objs [(10,.box [.t (.sl (r.b.map rB)),.t (.sc (.int .i64 r.p))])])
theorem zhG (fuel:Nat):m_spec_l15Open_AC fuel:=by
 intro x1 r F0
 unfold zeI at F0
 refine AC_i [.rf 10 0] Tryz.func24 rfl Tryz.ntmps24 ?_
 intro C hC
 refine zb (za ?_)
 refine s_as ?_
 refine zf (zd (zb (zb (za ?_))))
 refine s_mv ?_
 refine zF yU22 ?_
 refine s_gt ?_
 refine zf (zd ?_)
 refine zn F0 ?_ ?_<;>intro C1 F1
 refine zN 0 (fun B2=>?_)
 refine za ?_
 refine s_mv ?_
 obtain ⟨v3,V3,F2⟩:=zc F1
 refine s_sl01 rB (fun _=>rfl) V3 yU22 yE22 ?_
 refine s_as ?_
 refine zf (zd (zb (za ?_)))
 refine s_mv ?_
 refine zgQ yZ94 yL94 ?_
 refine za7 ?_
 refine s_as ?_
 refine zf (zd (zh (zm ?_)))
 cases F2
 exact zk _ [] Tryz.results24
 refine zi (zd (zb (za ?_)))
 refine s_mv ?_
 refine zgQ yZ94 yL94 ?_
 refine za7 ?_
 refine s_as ?_
 refine zf (zd (zh (zm ?_)))
 cases F1
 exact zk _ [] Tryz.results24
def m_spec_l5Texts_AC (fuel:Nat):Prop:=∀  (r:(List (List ByteArray))),zgD fuel =some r→AC Tryz.prog 59 [] noOb (.t (.sl (r.map (rL rS)))) noOb
theorem m_spec_l5Texts_ok (fuel:Nat):m_spec_l5Texts_AC fuel:=by
 intro  r F0
 unfold zgD at F0
 refine AC_i [.t (.sl (r.map (rL rS)))] Tryz.func59 rfl Tryz.ntmps59 ?_
 intro C hC
 refine zb (za ?_)
 refine s_as ?_
 refine zf (zd (zb (za ?_)))
 refine s_bs rS [(⟨#[40,114,117,108,101,115,32,40,41,32,40,40,95,32,97,32,98,41,32,40,108,101,116,32,40,40,116,109,112,32,97,41,41,32,40,108,105,115,116,32,98,32,116,109,112,41,41,41,41]⟩:ByteArray),(⟨#[40,115,119,97,112,32,120,32,121,41]⟩:ByteArray)] yP89 yR9 ?_
 refine s_bs rS [(⟨#[40,114,117,108,101,115,32,40,41,32,40,40,95,41,32,48,41,32,40,40,95,32,97,41,32,97,41,32,40,40,95,32,97,32,98,32,46,46,46,41,32,40,105,102,32,97,32,49,32,40,111,114,32,98,32,46,46,46,41,41,41,41]⟩:ByteArray),(⟨#[40,111,114,32,120,32,121,32,122,41]⟩:ByteArray)] yP89 yR9 ?_
 refine s_bs rS [(⟨#[40,114,117,108,101,115,32,40,41,32,40,40,95,32,40,40,120,32,118,41,32,46,46,46,41,32,98,111,100,121,41,32,40,40,108,97,109,98,100,97,32,40,120,32,46,46,46,41,32,98,111,100,121,41,32,118,32,46,46,46,41,41,41]⟩:ByteArray),(⟨#[40,109,121,108,101,116,32,40,40,112,32,49,41,32,40,113,32,50,41,41,32,40,102,32,112,32,113,41,41]⟩:ByteArray)] yP89 yR9 ?_
 refine s_bs rS [(⟨#[40,114,117,108,101,115,32,40,101,108,115,101,41,32,40,40,95,32,101,108,115,101,32,101,41,32,101,41,32,40,40,95,32,99,32,101,32,114,32,46,46,46,41,32,40,105,102,32,99,32,101,32,40,99,111,110,100,32,114,32,46,46,46,41,41,41,41]⟩:ByteArray),(⟨#[40,99,111,110,100,32,112,32,49,32,101,108,115,101,32,50,41]⟩:ByteArray)] yP89 yR9 ?_
 refine s_bs rS [(⟨#[40,114,117,108,101,115,32,40,41,32,40,40,95,32,40,97,32,98,32,46,46,46,41,32,46,46,46,41,32,40,109,32,40,97,32,46,46,46,41,32,40,40,97,32,98,32,46,46,46,41,32,46,46,46,41,32,49,41,41,41]⟩:ByteArray),(⟨#[40,109,32,40,120,32,49,32,50,41,32,40,121,41,41]⟩:ByteArray)] yP89 yR9 ?_
 refine s_bs rS [(⟨#[40,114,117,108,101,115,32,40,41,32,40,40,95,32,97,32,46,46,46,41,32,40,108,105,115,116,32,97,32,46,46,46,32,97,32,46,46,46,41,41,41]⟩:ByteArray),(⟨#[40,116,119,105,99,101,32,49,32,50,41]⟩:ByteArray)] yP89 yR9 ?_
 refine s_bs rS [(⟨#[40,114,117,108,101,115,32,40,41,32,40,40,95,32,97,32,46,46,46,41,32,40,40,97,32,49,41,32,46,46,46,41,41,32,40,40,95,32,98,41,32,98,41,41]⟩:ByteArray),(⟨#[40,112,97,105,114,115,32,112,32,113,41]⟩:ByteArray)] yP89 yR9 ?_
 refine s_bs rS [(⟨#[40,114,117,108,101,115,32,40,41,32,40,40,95,32,97,41,32,97,41,32,40,40,95,32,53,41,32,54,41,32,40,40,95,32,97,32,98,41,32,98,41,41]⟩:ByteArray),(⟨#[40,107,32,53,41]⟩:ByteArray)] yP89 yR9 ?_
 refine s_bs (rL rS) [[(⟨#[40,114,117,108,101,115,32,40,41,32,40,40,95,32,97,32,98,41,32,40,108,101,116,32,40,40,116,109,112,32,97,41,41,32,40,108,105,115,116,32,98,32,116,109,112,41,41,41,41]⟩:ByteArray),(⟨#[40,115,119,97,112,32,120,32,121,41]⟩:ByteArray)],[(⟨#[40,114,117,108,101,115,32,40,41,32,40,40,95,41,32,48,41,32,40,40,95,32,97,41,32,97,41,32,40,40,95,32,97,32,98,32,46,46,46,41,32,40,105,102,32,97,32,49,32,40,111,114,32,98,32,46,46,46,41,41,41,41]⟩:ByteArray),(⟨#[40,111,114,32,120,32,121,32,122,41]⟩:ByteArray)],[(⟨#[40,114,117,108,101,115,32,40,41,32,40,40,95,32,40,40,120,32,118,41,32,46,46,46,41,32,98,111,100,121,41,32,40,40,108,97,109,98,100,97,32,40,120,32,46,46,46,41,32,98,111,100,121,41,32,118,32,46,46,46,41,41,41]⟩:ByteArray),(⟨#[40,109,121,108,101,116,32,40,40,112,32,49,41,32,40,113,32,50,41,41,32,40,102,32,112,32,113,41,41]⟩:ByteArray)],[(⟨#[40,114,117,108,101,115,32,40,101,108,115,101,41,32,40,40,95,32,101,108,115,101,32,101,41,32,101,41,32,40,40,95,32,99,32,101,32,114,32,46,46,46,41,32,40,105,102,32,99,32,101,32,40,99,111,110,100,32,114,32,46,46,46,41,41,41,41]⟩:ByteArray),(⟨#[40,99,111,110,100,32,112,32,49,32,101,108,115,101,32,50,41]⟩:ByteArray)],[(⟨#[40,114,117,108,101,115,32,40,41,32,40,40,95,32,40,97,32,98,32,46,46,46,41,32,46,46,46,41,32,40,109,32,40,97,32,46,46,46,41,32,40,40,97,32,98,32,46,46,46,41,32,46,46,46,41,32,49,41,41,41]⟩:ByteArray),(⟨#[40,109,32,40,120,32,49,32,50,41,32,40,121,41,41]⟩:ByteArray)],[(⟨#[40,114,117,108,101,115,32,40,41,32,40,40,95,32,97,32,46,46,46,41,32,40,108,105,115,116,32,97,32,46,46,46,32,97,32,46,46,46,41,41,41]⟩:ByteArray),(⟨#[40,116,119,105,99,101,32,49,32,50,41]⟩:ByteArray)],[(⟨#[40,114,117,108,101,115,32,40,41,32,40,40,95,32,97,32,46,46,46,41,32,40,40,97,32,49,41,32,46,46,46,41,41,32,40,40,95,32,98,41,32,98,41,41]⟩:ByteArray),(⟨#[40,112,97,105,114,115,32,112,32,113,41]⟩:ByteArray)],[(⟨#[40,114,117,108,101,115,32,40,41,32,40,40,95,32,97,41,32,97,41,32,40,40,95,32,53,41,32,54,41,32,40,40,95,32,97,32,98,41,32,98,41,41]⟩:ByteArray),(⟨#[40,107,32,53,41]⟩:ByteArray)]] yP86 yR89 ?_
 refine s_as ?_
 refine zf (zd (zh (zm ?_)))
 cases F0
 exact zk [] [9] Tryz.results59
def m_spec_l15Rd_pick_AC (fuel:Nat):Prop:=∀ (o1:zbY) (x2:Int) (r:(Int × zbY)),z5 fuel o1 x2=some r→AC Tryz.prog 25 [.rf 9000 0,.t (.sc (.int .i64 x2))] (objs [(9000,.box [.t (.sl (o1.b.map rB)),.t (.sc (.int .i64 o1.p))])]) (.t (.sc (.int .i64 r.1))) (objs [(9000,.box [.t (.sl (r.2.b.map rB)),.t (.sc (.int .i64 r.2.p))])])
theorem zah (fuel:Nat):m_spec_l15Rd_pick_AC fuel:=by
 intro o1 x2 r F0
 unfold z5 at F0
 refine AC_i [.t (.sc (.int .i64 r.1))] Tryz.func25 rfl Tryz.ntmps25 ?_
 intro C hC
 refine zb (za ?_)
 refine s_as ?_
 refine zf (zd (zb (za ?_)))
 refine s_mv ?_
 refine s_mv ?_
 refine s_nc ?_
 refine s_fa yF94_1 ?_
 refine zu yA3 ?_
 refine zH rfl ?_
 refine s_nc ?_
 refine s_fa yF94_1 ?_
 refine s_stP yS3 ?_
 refine zf (zd (zb (zb (za ?_))))
 refine s_mv ?_
 refine s_lt ?_
 refine s_mv ?_
 refine zo _ 17 F0 ?_ ?_<;>intro C1 F1
 iterate 6 refine r_no rfl ?_
 refine zz ?_
 refine zf (zd (zK rfl (zb (za ?_))))
 refine s_as ?_
 refine zf (zd (zh (zg (zm ?_))))
 cases F1
 exact zk _ [] Tryz.results25
 refine s_mv ?_
 refine s_nc ?_
 refine s_fa yF94_0 ?_
 refine zu yA22 ?_
 refine zF yU22 ?_
 refine s_eq ?_
 refine zy ?_
 refine zf (zd ?_)
 refine zn F1 ?_ ?_<;>intro C2 F2
 refine zb (za ?_)
 refine s_as ?_
 refine zf (zd (zh (zg (zm ?_))))
 cases F2
 exact zk _ [] Tryz.results25
 refine zi (zd (zb (za ?_)))
 refine s_mv ?_
 refine s_nc ?_
 refine s_fa yF94_1 ?_
 refine zu yA3 ?_
 refine s_sub rfl ?_
 refine s_as ?_
 refine zf (zd (zb (zb (za ?_))))
 refine s_mv ?_
 refine s_mv ?_
 refine s_nc ?_
 refine s_fa yF94_0 ?_
 refine zu yA22 ?_
 refine zF yU22 ?_
 refine s_lt ?_
 refine zf (zd ?_)
 refine zn F2 ?_ ?_<;>intro C3 F3
 refine zb (za ?_)
 refine s_mv ?_
 refine s_nc ?_
 refine s_fa yF94_0 ?_
 refine zu yA22 ?_
 refine s_mv ?_
 obtain ⟨v4,V4,F4⟩:=zc F3
 refine zR rB V4 rfl yE22 ?_
 refine zu yA5 ?_
 refine s_int yU5 yU3 rfl ?_
 refine s_mv ?_
 obtain ⟨hk5,F5⟩:=zat F4
 refine s_rem (h0:=not_zero hk5) ?_
 refine s_as ?_
 refine zf (zd (zh (zg (zm ?_))))
 cases F5
 exact zk _ [] Tryz.results25
 refine zi (zd (zb ?_))
 refine zZ yMix (by kernel_rfl) ?_
 refine s_mv ?_
 refine s_nc ?_
 refine s_fa yF94_0 ?_
 refine zu yA22 ?_
 refine s_mv ?_
 refine s_mv ?_
 refine s_nc ?_
 refine s_fa yF94_0 ?_
 refine zu yA22 ?_
 refine zF yU22 ?_
 obtain ⟨hk6,F4⟩:=zat F3
 refine s_rem (h0:=not_zero hk6) ?_
 obtain ⟨v7,V7,F5⟩:=zc F4
 refine zR rB V7 rfl yE22 ?_
 refine zu yA5 ?_
 refine s_int yU5 yU3 rfl ?_
 refine s_mul rfl ?_
 refine s_mv ?_
 refine s_nc ?_
 refine s_fa yF94_0 ?_
 refine zu yA22 ?_
 refine s_mv ?_
 refine s_mul rfl ?_
 refine zH rfl ?_
 refine s_mv ?_
 refine s_nc ?_
 refine s_fa yF94_0 ?_
 refine zu yA22 ?_
 refine zF yU22 ?_
 obtain ⟨hk8,F6⟩:=zat F5
 refine s_rem (h0:=not_zero hk8) ?_
 obtain ⟨v9,V9,F7⟩:=zc F6
 refine zR rB V9 rfl yE22 ?_
 refine zu yA5 ?_
 refine s_int yU5 yU3 rfl ?_
 refine s_mul rfl ?_
 refine zH rfl ?_
 refine s_mv ?_
 refine s_mul rfl ?_
 refine zH rfl ?_
 refine s_mv ?_
 refine s_mv ?_
 refine s_nc ?_
 refine s_fa yF94_0 ?_
 refine zu yA22 ?_
 refine zF yU22 ?_
 obtain ⟨hk10,F8⟩:=zat F7
 refine s_quo (h0:=not_zero hk10) rfl ?_
 refine s_mul rfl ?_
 refine zH rfl ?_
 refine s_as ?_
 refine zam (by kernel_rfl) ?_
 refine zd (zb (za ?_))
 refine s_mv ?_
 refine s_mv ?_
 refine s_quo rfl ?_
 refine s_xor rfl ?_
 refine s_as ?_
 refine zf (zd (zb (za ?_)))
 refine s_mv ?_
 refine s_mv ?_
 obtain ⟨hk11,F9⟩:=zat F8
 refine s_rem (h0:=not_zero hk11) ?_
 refine s_as ?_
 refine zf (zd (zh (zm ?_)))
 cases F9
 exact zk _ [] Tryz.results25
def m_spec_l1Skip_AC (fuel:Nat):Prop:=∀ (x1:ByteArray) (x2:Int) (r:Int),zfl fuel x1 x2=some r→AC Tryz.prog 156 [.t (.sc (.str x1)),.t (.sc (.int .i64 x2))] noOb (.t (.sc (.int .i64 r))) noOb
theorem zfR (fuel:Nat):m_spec_l1Skip_AC fuel:=by
 intro x1 x2 r F0
 unfold zfl at F0
 refine AC_i [.t (.sc (.int .i64 r))] Tryz.func156 rfl Tryz.ntmps156 ?_
 intro C hC
 refine zb (za ?_)
 refine s_as ?_
 refine zf (zd (zb (zl ?_)))
 refine zaX (β:=Int) [1,5,6,7,8,9,10,11,12,13,14,15,16] [] [] (fun a=>[(1,.t (.sc (.int .i64 a.2)))]) (fun a=>[]) (fun a=>a.1≤fuel∧zed a.1 x1 a.2=some r) (fuel,x2) ⟨Nat.le_refl _,F0⟩ ?_
 clear F0
 rintro ⟨fu,g1⟩ ⟨hl2,F1⟩
 dsimp only at hl2 F1 ⊢
 obtain _ | fu:=fu
 · rw [zed] at F1;cases F1
 rw [zed] at F1
 refine zb (zb (za ?_))
 refine s_mv ?_
 refine s_mv ?_
 refine ze3 yU9 ?_
 refine s_lt ?_
 refine s_mv ?_
 refine zo _ 9 F1 ?_ ?_<;>intro C3 F2
 refine s_mv ?_
 refine s_mv ?_
 obtain ⟨v4,V4,F3⟩:=zc F2
 refine s_ixS V4 yU9 ?_
 refine s_eq ?_
 refine zz ?_
 refine zf (zd ?_)
 refine zn F3 ?_ ?_<;>intro C5 F4
 refine zi (zd (zl (za ?_)))
 refine s_mv ?_
 refine zH rfl ?_
 refine s_as ?_
 refine zf (zU ?_)
 exact s_rn (fu,(w64 (g1+1))) ⟨by first | omega | (dsimp only;omega),F4⟩
 refine zA (zq (zp (zr (zd (zb (za ?_))))))
 refine s_mv ?_
 refine s_as ?_
 refine zf (zd (zh (zm ?_)))
 cases F4
 exact zk [] [] Tryz.results156
 iterate 4 refine r_no rfl ?_
 refine zy ?_
 refine zf (zd (zaP rfl (zA (zq (zp (zr (zd (zb (za ?_)))))))))
 refine s_mv ?_
 refine s_as ?_
 refine zf (zd (zh (zm ?_)))
 cases F2
 exact zk [] [] Tryz.results156
def m_spec_l1Word_AC (fuel:Nat):Prop:=∀ (x1:ByteArray) (x2:Int) (r:Int),zhX fuel x1 x2=some r→AC Tryz.prog 174 [.t (.sc (.str x1)),.t (.sc (.int .i64 x2))] noOb (.t (.sc (.int .i64 r))) noOb
theorem m_spec_l1Word_ok (fuel:Nat):m_spec_l1Word_AC fuel:=by
 intro x1 x2 r F0
 unfold zhX at F0
 refine AC_i [.t (.sc (.int .i64 r))] Tryz.func174 rfl Tryz.ntmps174 ?_
 intro C hC
 refine zb (za ?_)
 refine s_as ?_
 refine zf (zd (zb (zl ?_)))
 refine zaX (β:=Int) [1,5,6,7,8,9,10,11,12,13,14,15,16,17,18,19,20,21,22,23,24,25,26,27,28,29,30,31,32,33,34] [] [] (fun a=>[(1,.t (.sc (.int .i64 a.2)))]) (fun a=>[]) (fun a=>a.1≤fuel∧zec a.1 x1 a.2=some r) (fuel,x2) ⟨Nat.le_refl _,F0⟩ ?_
 clear F0
 rintro ⟨fu,g1⟩ ⟨hl2,F1⟩
 dsimp only at hl2 F1 ⊢
 obtain _ | fu:=fu
 · rw [zec] at F1;cases F1
 rw [zec] at F1
 refine zb (zb (za ?_))
 refine s_mv ?_
 refine s_mv ?_
 refine ze3 yU9 ?_
 refine s_lt ?_
 refine s_mv ?_
 refine zo _ 9 F1 ?_ ?_<;>intro C3 F2
 refine s_mv ?_
 refine s_mv ?_
 obtain ⟨v4,V4,F3⟩:=zc F2
 refine s_ixS V4 yU9 ?_
 refine s_ne ?_
 refine zz ?_
 refine s_mv ?_
 refine zo _ 15 F3 ?_ ?_<;>intro C5 F4
 refine s_mv ?_
 refine s_mv ?_
 obtain ⟨v6,V6,F5⟩:=zc F4
 refine s_ixS V6 yU9 ?_
 refine s_ne ?_
 refine zz ?_
 refine s_mv ?_
 refine zo _ 21 F5 ?_ ?_<;>intro C7 F6
 refine s_mv ?_
 refine s_mv ?_
 obtain ⟨v8,V8,F7⟩:=zc F6
 refine s_ixS V8 yU9 ?_
 refine s_ne ?_
 refine zz ?_
 refine s_mv ?_
 refine zo _ 27 F7 ?_ ?_<;>intro C9 F8
 refine s_mv ?_
 refine s_mv ?_
 obtain ⟨v10,V10,F9⟩:=zc F8
 refine s_ixS V10 yU9 ?_
 refine s_ne ?_
 refine zz ?_
 refine zf (zd ?_)
 refine zn F9 ?_ ?_<;>intro C11 F10
 refine zi (zd (zl (za ?_)))
 refine s_mv ?_
 refine zH rfl ?_
 refine s_as ?_
 refine zf (zU ?_)
 exact s_rn (fu,(w64 (g1+1))) ⟨by first | omega | (dsimp only;omega),F10⟩
 refine zA (zq (zp (zr (zd (zb (za ?_))))))
 refine s_mv ?_
 refine s_as ?_
 refine zf (zd (zh (zm ?_)))
 cases F10
 exact zk [] [] Tryz.results174
 iterate 4 refine r_no rfl ?_
 refine zy ?_
 refine zf (zd (zaP rfl (zA (zq (zp (zr (zd (zb (za ?_)))))))))
 refine s_mv ?_
 refine s_as ?_
 refine zf (zd (zh (zm ?_)))
 cases F8
 exact zk [] [] Tryz.results174
 iterate 4 refine r_no rfl ?_
 refine zy ?_
 refine s_mv ?_
 iterate 4 refine r_no rfl ?_
 refine zy ?_
 refine zf (zd (zaP rfl (zA (zq (zp (zr (zd (zb (za ?_)))))))))
 refine s_mv ?_
 refine s_as ?_
 refine zf (zd (zh (zm ?_)))
 cases F6
 exact zk [] [] Tryz.results174
 iterate 4 refine r_no rfl ?_
 refine zy ?_
 refine s_mv ?_
 iterate 4 refine r_no rfl ?_
 refine zy ?_
 refine s_mv ?_
 iterate 4 refine r_no rfl ?_
 refine zy ?_
 refine zf (zd (zaP rfl (zA (zq (zp (zr (zd (zb (za ?_)))))))))
 refine s_mv ?_
 refine s_as ?_
 refine zf (zd (zh (zm ?_)))
 cases F4
 exact zk [] [] Tryz.results174
 iterate 4 refine r_no rfl ?_
 refine zy ?_
 refine s_mv ?_
 iterate 4 refine r_no rfl ?_
 refine zy ?_
 refine s_mv ?_
 iterate 4 refine r_no rfl ?_
 refine zy ?_
 refine s_mv ?_
 iterate 4 refine r_no rfl ?_
 refine zy ?_
 refine zf (zd (zaP rfl (zA (zq (zp (zr (zd (zb (za ?_)))))))))
 refine s_mv ?_
 refine s_as ?_
 refine zf (zd (zh (zm ?_)))
 cases F2
 exact zk [] [] Tryz.results174
def m_spec_l15Num_AC (fuel:Nat):Prop:=∀ (x1:ByteArray) (r:(Int × Bool)),zg3 fuel x1=some r→AC Tryz.prog 175 [.t (.sc (.str x1))] noOb (.tp [.t (.sc (.int .i64 r.1)),.t (.sc (.bool r.2))]) noOb
theorem m_spec_l15Num_ok (fuel:Nat):m_spec_l15Num_AC fuel:=by
 intro x1 r F0
 unfold zg3 at F0
 refine AC_i [.t (.sc (.int .i64 r.1)),.t (.sc (.bool r.2))] Tryz.func175 rfl Tryz.ntmps175 ?_
 intro C hC
 refine zb (za ?_)
 refine s_as ?_
 refine s_as ?_
 refine zf (zd ?_)
 refine zca (α:=Nat × Bool) [4,7,8,9,10,11,12,13,14] [] [] (fun a=>[(4,.t (.sc (.bool a.2)))]) (fun a=>[]) (fun a=>a.1≤fuel∧zer a.1 x1 a.2=some r) ?_ ?_
 refine za ?_
 refine s_mv ?_
 refine ze3 yU9 ?_
 refine s_gt ?_
 refine s_mv ?_
 refine zo _ 10 F0 ?_ ?_<;>intro C1 F1
 refine s_mv ?_
 obtain ⟨v2,V2,F2⟩:=zc F1
 refine s_ixS V2 yU9 ?_
 refine s_eq ?_
 refine zz ?_
 refine s_as ?_
 refine zf ?_
 exact s_jn (fuel,(decide (v2=45))) ⟨by first | omega | (dsimp only;omega),F2⟩
 iterate 3 refine r_no rfl ?_
 refine zy ?_
 refine s_as ?_
 refine zf ?_
 exact s_jn (fuel,false) ⟨by first | omega | (dsimp only;omega),F1⟩
 clear F0
 rintro ⟨fu,g3⟩ ⟨hl4,F1⟩
 dsimp only at hl4 F1 ⊢
 obtain _ | fu:=fu
 · rw [zer] at F1;cases F1
 rw [zer] at F1
 refine zca (α:=Nat × ByteArray) [0,15,16,17] [] [] (fun a=>[(0,.t (.sc (.str a.2)))]) (fun a=>[]) (fun a=>a.1≤fu∧zeq a.1 g3 a.2=some r) ?_ ?_
 refine zb (za ?_)
 refine s_mv ?_
 refine zf (zd ?_)
 refine zn F1 ?_ ?_<;>intro C5 F2
 refine za ?_
 refine s_mv ?_
 obtain ⟨v6,V6,F3⟩:=zc F2
 refine s_ss10 V6 yU9 ?_
 refine s_as ?_
 refine zf ?_
 exact s_jn (fu,v6) ⟨by first | omega | (dsimp only;omega),F3⟩
 refine zi ?_
 exact s_jn (fu,x1) ⟨by first | omega | (dsimp only;omega),F2⟩
 clear F1
 rintro ⟨fu,g7⟩ ⟨hl8,F2⟩
 dsimp only at hl8 F2 ⊢
 obtain _ | fu:=fu
 · rw [zeq] at F2;cases F2
 rw [zeq] at F2
 refine zca (α:=Nat) [2,3,18,19,20,21,22,23,24,25,26,27,28,29,30,31,32,33,34,35,36,37,38] [] [] (fun a=>[]) (fun a=>[]) (fun a=>a≤fu∧zep a g3 g7 =some r) ?_ ?_
 refine zb (za ?_)
 refine s_mv ?_
 refine ze3 yU9 ?_
 refine s_eq ?_
 refine s_mv ?_
 refine zo _ 21 F2 ?_ ?_<;>intro C9 F3
 iterate 3 refine r_no rfl ?_
 refine zz ?_
 refine s_mv ?_
 iterate 11 refine r_no rfl ?_
 refine zz ?_
 refine zf (zd (zK rfl (zb (za ?_))))
 refine s_as ?_
 refine s_as ?_
 refine zf (zd (zh (zgp (zm ?_))))
 cases F3
 exact zk [] [] Tryz.results175
 refine s_mv ?_
 refine ze3 yU9 ?_
 refine s_gt ?_
 refine zy ?_
 refine s_mv ?_
 refine zo _ 26 F3 ?_ ?_<;>intro C10 F4
 iterate 11 refine r_no rfl ?_
 refine zz ?_
 refine zf (zd (zK rfl (zb (za ?_))))
 refine s_as ?_
 refine s_as ?_
 refine zf (zd (zh (zgp (zm ?_))))
 cases F4
 exact zk [] [] Tryz.results175
 refine s_mv ?_
 obtain ⟨v11,V11,F5⟩:=zc F4
 refine s_ixS V11 yU9 ?_
 refine s_eq ?_
 refine s_mv ?_
 refine zo _ 30 F5 ?_ ?_<;>intro C12 F6
 refine s_mv ?_
 refine ze3 yU9 ?_
 refine s_gt ?_
 refine s_mv ?_
 refine zo _ 34 F6 ?_ ?_<;>intro C13 F7
 refine r_no rfl ?_
 refine zz ?_
 refine zz ?_
 refine zy ?_
 refine zf (zd (zK rfl (zb (za ?_))))
 refine s_as ?_
 refine s_as ?_
 refine zf (zd (zh (zgp (zm ?_))))
 cases F7
 exact zk [] [] Tryz.results175
 refine s_mv ?_
 refine zy ?_
 refine zz ?_
 refine zy ?_
 refine zf (zd ?_)
 refine zn F7 ?_ ?_<;>intro C14 F8
 refine zb (za ?_)
 refine s_as ?_
 refine s_as ?_
 refine zf (zd (zh (zgp (zm ?_))))
 cases F8
 exact zk [] [] Tryz.results175
 refine zi ?_
 exact s_jn (fu) ⟨by first | omega | (dsimp only;omega),F8⟩
 iterate 6 refine r_no rfl ?_
 refine zy ?_
 refine zy ?_
 refine zf (zd (zaP rfl (zi ?_)))
 exact s_jn (fu) ⟨by first | omega | (dsimp only;omega),F6⟩
 clear F2
 rintro fu ⟨hl15,F3⟩
 obtain _ | fu:=fu
 · rw [zep] at F3;cases F3
 rw [zep] at F3
 refine zb (za ?_)
 refine s_as ?_
 refine zf (zd (zb (zb (za ?_))))
 refine s_as ?_
 refine zf (zd (zl ?_))
 refine zaX (β:=Int × Int) [2,3,5,6,39,40,41,42,43,44,45,46,47,48,49,50,51,52,53,54,55,56,57,58,59,60,61,62] [] [] (fun a=>[(5,.t (.sc (.int .i64 a.2.1))),(6,.t (.sc (.int .i64 a.2.2)))]) (fun a=>[]) (fun a=>a.1≤fu∧zen a.1 g3 g7 a.2.1 a.2.2=some r) (fu,0,0) ⟨Nat.le_refl _,F3⟩ ?_
 clear F3
 rintro ⟨fu,g16,g17⟩ ⟨hl18,F4⟩
 dsimp only at hl18 F4 ⊢
 obtain _ | fu:=fu
 · rw [zen] at F4;cases F4
 rw [zen] at F4
 refine zb (zb (za ?_))
 refine s_mv ?_
 refine s_mv ?_
 refine ze3 yU9 ?_
 refine s_lt ?_
 refine zf (zd ?_)
 refine zn F4 ?_ ?_<;>intro C19 F5
 refine zi (zd (zb (zl (zb ?_))))
 refine zca (α:=Nat × Bool) [45,46,47,48,49,50,51,52,53,54] [] [] (fun a=>[(54,.t (.sc (.bool a.2)))]) (fun a=>[]) (fun a=>a.1≤fu∧zeo a.1 g3 g7 g16 g17 a.2=some r) ?_ ?_
 refine za ?_
 refine s_mv ?_
 refine s_mv ?_
 obtain ⟨v20,V20,F6⟩:=zc F5
 refine s_ixS V20 yU9 ?_
 refine s_lt ?_
 refine s_mv ?_
 refine zo _ 49 F6 ?_ ?_<;>intro C21 F7
 iterate 4 refine r_no rfl ?_
 refine zz ?_
 refine zf ?_
 exact s_jn (fu,true) ⟨by first | omega | (dsimp only;omega),F7⟩
 refine s_mv ?_
 refine s_mv ?_
 obtain ⟨v22,V22,F8⟩:=zc F7
 refine s_ixS V22 yU9 ?_
 refine s_gt ?_
 refine zy ?_
 refine zf ?_
 exact s_jn (fu,(decide (57 < v22))) ⟨by first | omega | (dsimp only;omega),F8⟩
 clear F5
 rintro ⟨fu,g23⟩ ⟨hl24,F6⟩
 dsimp only at hl24 F6 ⊢
 obtain _ | fu:=fu
 · rw [zeo] at F6;cases F6
 rw [zeo] at F6
 refine zn F6 ?_ ?_<;>intro C25 F7
 refine zb (za ?_)
 refine s_as ?_
 refine s_as ?_
 refine zf (zd (zh (zg (zj (zg (zw (zj (zg (zm ?_)))))))))
 cases F7
 exact zk [] [] Tryz.results175
 refine zi (zd (za ?_))
 refine s_mv ?_
 refine s_mul rfl ?_
 refine s_mv ?_
 refine s_mv ?_
 obtain ⟨v26,V26,F8⟩:=zc F7
 refine s_ixS V26 yU9 ?_
 refine s_sub rfl ?_
 refine s_int yU5 yU3 rfl ?_
 refine zH rfl ?_
 refine s_as ?_
 refine zf (zU (zd (za ?_)))
 refine s_mv ?_
 refine zH rfl ?_
 refine s_as ?_
 refine zf ?_
 exact s_rn (fu,(w64 ((w64 (g16*10))+(w64 (w8 (v26-48))))),(w64 (g17+1))) ⟨by first | omega | (dsimp only;omega),F8⟩
 refine zA (zq (zp (zr (zd (zb (zb (za ?_)))))))
 refine s_mv ?_
 refine zf (zd ?_)
 refine zn F5 ?_ ?_<;>intro C27 F6
 refine za ?_
 refine s_mv ?_
 refine s_neg rfl ?_
 refine s_as ?_
 refine zf (zd (zb (za ?_)))
 refine s_mv ?_
 refine s_as ?_
 refine s_as ?_
 refine zf (zd (zh (zm ?_)))
 cases F6
 exact zk [] [] Tryz.results175
 refine zi (zd (zb (za ?_)))
 refine s_mv ?_
 refine s_as ?_
 refine s_as ?_
 refine zf (zd (zh (zm ?_)))
 cases F6
 exact zk [] [] Tryz.results175
def m_spec_l15Cut_AC (fuel:Nat):Prop:=∀ (x1:ByteArray) (x2:Int) (r:(List ByteArray)),zh0 fuel x1 x2=some r→AC Tryz.prog 180 [.t (.sc (.str x1)),.t (.sc (.int .u8 x2))] noOb (.t (.sl (r.map rS))) noOb
theorem m_spec_l15Cut_ok (fuel:Nat):m_spec_l15Cut_AC fuel:=by
 intro x1 x2 r F0
 unfold zh0 at F0
 refine AC_i [.t (.sl (r.map rS))] Tryz.func180 rfl Tryz.ntmps180 ?_
 intro C hC
 refine zb (za ?_)
 refine s_as ?_
 refine zf (zd (zb (za ?_)))
 refine s_bs rS ([]:List ByteArray) yP89 yR9 ?_
 refine s_as ?_
 refine zf (zd (zb (za ?_)))
 refine s_as ?_
 refine zf (zd (zb (zb (za ?_))))
 refine s_as ?_
 refine zf (zd (zl ?_))
 refine zdf 5 8 5020 (by conv=>lhs;whnf) (by conv=>lhs;whnf) rfl ?_
 refine zaz [5,6,7,9,10,11,12,13,14,15,16,17,18,19,20,21,22,23,24,25,26,27,28,29,30,31,32,33,34] [5020] [31,32] [5020] (fun a:Nat × (List ByteArray) × Int × Int=>a.1) (fun a:Nat × (List ByteArray) × Int × Int=>[(5,.ar 5020),(6,.t (.sc (.int .i64 a.2.2.1))),(7,.t (.sc (.int .i64 a.2.2.2)))]) (fun a:Nat × (List ByteArray) × Int × Int=>[(5020,.arr (a.2.1.map rS) 9 true)]) (fun a:Nat × (List ByteArray) × Int × Int=>a.1≤fuel∧zdw a.1 x1 x2 a.2.1 a.2.2.1 a.2.2.2=some r) (fuel,([]:List ByteArray),0,0) ⟨Nat.le_refl _,F0⟩ (by rfl) (by rfl) (fun _=>rfl) (zQ (by conv=>lhs;whnf) (by rfl) (zQ (by conv=>lhs;whnf) (by rfl) (zQ (by conv=>lhs;whnf) (by rfl) zbA))) (zV (by conv=>lhs;whnf) (by rfl) zbl) (zcq hC rfl) (by repeat (first | exact zai rfl | refine zax rfl ?_ | refine z8 rfl ?_)) (by repeat (first | exact zaU | exact zan rfl | refine zay rfl ?_ | refine z9 rfl ?_)) ?_
 clear F0
 rintro ⟨fu,g1,g2,g3⟩ ⟨hl4,F1⟩
 dsimp only at hl4 F1 ⊢
 obtain _ | fu:=fu
 · rw [zdw] at F1;cases F1
 rw [zdw] at F1
 refine zb (zb (za ?_))
 refine s_mv ?_
 refine s_mv ?_
 refine ze3 yU9 ?_
 refine s_le ?_
 refine zf (zd ?_)
 refine zn F1 ?_ ?_<;>intro C5 F2
 refine zi (zd (zb (zl ?_)))
 refine zca (α:=Nat × Bool) [15,16,17,18,19,20,21,22,23,24,25] [] [] (fun a=>[(25,.t (.sc (.bool a.2)))]) (fun a=>[]) (fun a=>a.1≤fu∧zes a.1 x1 x2 g1 g2 g3 a.2=some r) ?_ ?_
 refine za ?_
 refine s_mv ?_
 refine s_mv ?_
 refine ze3 yU9 ?_
 refine s_eq ?_
 refine s_mv ?_
 refine zo _ 19 F2 ?_ ?_<;>intro C6 F3
 iterate 5 refine r_no rfl ?_
 refine zz ?_
 refine zf ?_
 exact s_jn (fu,true) ⟨by first | omega | (dsimp only;omega),F3⟩
 refine s_mv ?_
 refine s_mv ?_
 obtain ⟨v7,V7,F4⟩:=zc F3
 refine s_ixS V7 yU9 ?_
 refine s_mv ?_
 refine s_eq ?_
 refine zy ?_
 refine zf ?_
 exact s_jn (fu,(decide (v7=x2))) ⟨by first | omega | (dsimp only;omega),F4⟩
 clear F2
 rintro ⟨fu,g8⟩ ⟨hl9,F3⟩
 dsimp only at hl9 F3 ⊢
 obtain _ | fu:=fu
 · rw [zes] at F3;cases F3
 rw [zes] at F3
 refine zn F3 ?_ ?_<;>intro C10 F4
 refine zb (za ?_)
 iterate 4 refine s_mv ?_
 obtain ⟨v11,V11,F5⟩:=zc F4
 refine s_ss11 V11 yU9 ?_
 refine s_bs rS [v11] yP89 yR9 ?_
 obtain ⟨hk12,F6⟩:=zat F5
 refine zfw rS (fun _=>rfl) hk12 yP89 ?_
 refine s_as ?_
 refine zf (zd (za ?_))
 refine s_mv ?_
 refine zH rfl ?_
 refine s_as ?_
 refine zf (zU (zd (za ?_)))
 refine s_mv ?_
 refine zH rfl ?_
 refine s_as ?_
 refine zf ?_
 exact s_rn (fu,(g1++[v11]),(w64 (g3+1)),(w64 (g3+1))) ⟨by first | omega | (dsimp only;omega),F6⟩ [(5020,32)]
 refine zi (zU (zd (za ?_)))
 refine s_mv ?_
 refine zH rfl ?_
 refine s_as ?_
 refine zf ?_
 exact s_rn (fu,g1,g2,(w64 (g3+1))) ⟨by first | omega | (dsimp only;omega),F4⟩
 refine zA (zq (zp (zr (zd (zb (za ?_))))))
 refine s_mv ?_
 refine s_as ?_
 refine zf (zd (zh (zm ?_)))
 cases F2
 exact zk [] [5020] Tryz.results180
def m_spec_l1Sets_AC (fuel:Nat):Prop:=∀ (x1:ByteArray) (x2:Int) (r:((List Int) × Int)),zhY fuel x1 x2=some r→AC Tryz.prog 176 [.t (.sc (.str x1)),.t (.sc (.int .i64 x2))] noOb (.tp [.t (.sl (r.1.map rI)),.t (.sc (.int .i64 r.2))]) noOb
theorem m_spec_l1Sets_ok (fuel:Nat):m_spec_l1Sets_AC fuel:=by
 intro x1 x2 r F0
 unfold zhY at F0
 refine AC_i [.t (.sl (r.1.map rI)),.t (.sc (.int .i64 r.2))] Tryz.func176 rfl Tryz.ntmps176 ?_
 intro C hC
 refine zb (za ?_)
 refine s_as ?_
 refine s_as ?_
 refine zf (zd (zb (za ?_)))
 refine s_bs rI ([]:List Int) yP27 yR3 ?_
 refine s_as ?_
 refine zf (zd (zb ?_))
 refine zca (α:=Nat × Bool) [13,14,15,16,17,18,19,20,21,22] [] [] (fun a=>[(22,.t (.sc (.bool a.2)))]) (fun a=>[]) (fun a=>a.1≤fuel∧zei a.1 x1 x2 a.2=some r) ?_ ?_
 refine za ?_
 refine s_mv ?_
 refine s_mv ?_
 refine ze3 yU9 ?_
 refine s_ge ?_
 refine s_mv ?_
 refine zo _ 17 F0 ?_ ?_<;>intro C1 F1
 iterate 4 refine r_no rfl ?_
 refine zz ?_
 refine zf ?_
 exact s_jn (fuel,true) ⟨by first | omega | (dsimp only;omega),F1⟩
 refine s_mv ?_
 refine s_mv ?_
 obtain ⟨v2,V2,F2⟩:=zc F1
 refine s_ixS V2 yU9 ?_
 refine s_ne ?_
 refine zy ?_
 refine zf ?_
 exact s_jn (fuel,(decide (v2≠123))) ⟨by first | omega | (dsimp only;omega),F2⟩
 clear F0
 rintro ⟨fu,g3⟩ ⟨hl4,F1⟩
 dsimp only at hl4 F1 ⊢
 obtain _ | fu:=fu
 · rw [zei] at F1;cases F1
 rw [zei] at F1
 refine zn F1 ?_ ?_<;>intro C5 F2
 refine zb (za ?_)
 refine s_mv ?_
 refine s_mv ?_
 refine s_as ?_
 refine s_as ?_
 refine zf (zd (zh (zg (zm ?_))))
 cases F2
 exact zk [] [12] Tryz.results176
 refine zi (zd (zb (za ?_)))
 refine s_mv ?_
 refine s_as ?_
 refine zf (zd ?_)
 refine zca (α:=Nat × Int) [7,26,27,28,29,30,31,32,33,34,35,36,37] [] [] (fun a=>[(7,.t (.sc (.int .i64 a.2)))]) (fun a=>[]) (fun a=>a.1≤fu∧zeh a.1 x1 x2 a.2=some r) ?_ ?_
 refine zl ?_
 refine zaX (β:=Int) [7,26,27,28,29,30,31,32,33,34,35,36,37] [] [] (fun a=>[(7,.t (.sc (.int .i64 a.2)))]) (fun a=>[]) (fun a=>a.1≤fu∧zef a.1 x1 x2 a.2=some r) (fu,x2) ⟨Nat.le_refl _,F2⟩ ?_
 clear F2
 rintro ⟨fu,g6⟩ ⟨hl7,F3⟩
 dsimp only at hl7 F3 ⊢
 obtain _ | fu:=fu
 · rw [zef] at F3;cases F3
 rw [zef] at F3
 refine zb (zb (za ?_))
 refine s_mv ?_
 refine s_mv ?_
 refine ze3 yU9 ?_
 refine s_lt ?_
 refine s_mv ?_
 refine zo _ 30 F3 ?_ ?_<;>intro C8 F4
 refine s_mv ?_
 refine s_mv ?_
 obtain ⟨v9,V9,F5⟩:=zc F4
 refine s_ixS V9 yU9 ?_
 refine s_ne ?_
 refine zz ?_
 refine zf (zd ?_)
 refine zn F5 ?_ ?_<;>intro C10 F6
 refine zi (zd (zl (za ?_)))
 refine s_mv ?_
 refine zH rfl ?_
 refine s_as ?_
 refine zf (zU ?_)
 exact s_rn (fu,(w64 (g6+1))) ⟨by first | omega | (dsimp only;omega),F6⟩
 refine zA (zq (zp (zr ?_)))
 exact s_jn (fu,g6) ⟨by first | omega | (dsimp only;omega),F6⟩
 iterate 4 refine r_no rfl ?_
 refine zy ?_
 refine zf (zd (zaP rfl (zA (zq (zp (zr ?_))))))
 exact s_jn (fu,g6) ⟨by first | omega | (dsimp only;omega),F4⟩
 clear F2
 rintro ⟨fu,g11⟩ ⟨hl12,F3⟩
 dsimp only at hl12 F3 ⊢
 obtain _ | fu:=fu
 · rw [zeh] at F3;cases F3
 rw [zeh] at F3
 refine zb (zb (za ?_))
 refine s_mv ?_
 refine s_mv ?_
 refine ze3 yU9 ?_
 refine s_eq ?_
 refine zf (zd ?_)
 refine zn F3 ?_ ?_<;>intro C13 F4
 refine zb (za ?_)
 refine s_mv ?_
 refine s_as ?_
 refine s_as ?_
 refine zf (zd (zh (zg (zm ?_))))
 cases F4
 exact zk [] [12] Tryz.results176
 refine zi (zd (zb (za ?_)))
 refine s_mv ?_
 refine s_mv ?_
 refine zH rfl ?_
 refine s_mv ?_
 obtain ⟨v14,V14,F5⟩:=zc F4
 refine s_ss11 V14 yU9 ?_
 obtain ⟨v15,V15,F6⟩:=zc F5
 refine zx [] (m_spec_l15Cut_ok fu _ _ _ V15) ?_
 refine s_as ?_
 refine zf (zd (zb (zb (za ?_))))
 refine s_as ?_
 refine zf (zd (zl ?_))
 refine zdf 6 12 5080 (by conv=>lhs;whnf) (by conv=>lhs;whnf) rfl ?_
 refine zaz [4,5,6,9,10,11,49,50,51,52,53,54,55,56,57,58,59,60,61,62,63,64,65,66,67,68,69,70,71,72,73] [5080] [72,73] [5080] (fun a:Nat × (List Int) × Int=>a.1) (fun a:Nat × (List Int) × Int=>[(6,.ar 5080),(9,.t (.sc (.int .i64 a.2.2)))]) (fun a:Nat × (List Int) × Int=>[(5080,.arr (a.2.1.map rI) 3 true)]) (fun a:Nat × (List Int) × Int=>a.1≤fu∧zee a.1 g11 v15 a.2.1 a.2.2=some r) (fu,([]:List Int),0) ⟨Nat.le_refl _,F6⟩ (by rfl) (by rfl) (fun _=>rfl) (zQ (by conv=>lhs;whnf) (by rfl) (zQ (by conv=>lhs;whnf) (by rfl) zbA)) (zV (by conv=>lhs;whnf) (by rfl) zbl) (zcq hC rfl) (by repeat (first | exact zai rfl | refine zax rfl ?_ | refine z8 rfl ?_)) (by repeat (first | exact zaU | exact zan rfl | refine zay rfl ?_ | refine z9 rfl ?_)) ?_
 clear F6
 rintro ⟨fu,g16,g17⟩ ⟨hl18,F7⟩
 dsimp only at hl18 F7 ⊢
 obtain _ | fu:=fu
 · rw [zee] at F7;cases F7
 rw [zee] at F7
 refine zb ?_
 refine zca (α:=Nat × Bool) [49,50,51,52,53,54,55,56] [] [] (fun a=>[(56,.t (.sc (.bool a.2)))]) (fun a=>[]) (fun a=>a.1≤fu∧zeg a.1 g11 v15 g16 g17 a.2=some r) ?_ ?_
 refine za ?_
 refine s_mv ?_
 refine s_mv ?_
 refine zF yU89 ?_
 refine s_lt ?_
 refine s_mv ?_
 refine zo _ 53 F7 ?_ ?_<;>intro C19 F8
 refine s_mv ?_
 refine s_le ?_
 refine zz ?_
 refine zf ?_
 exact s_jn (fu,(decide (g17≤24))) ⟨by first | omega | (dsimp only;omega),F8⟩
 refine r_no rfl (r_no rfl ?_)
 refine zy ?_
 refine zf ?_
 exact s_jn (fu,false) ⟨by first | omega | (dsimp only;omega),F8⟩
 clear F7
 rintro ⟨fu,g20⟩ ⟨hl21,F8⟩
 dsimp only at hl21 F8 ⊢
 obtain _ | fu:=fu
 · rw [zeg] at F8;cases F8
 rw [zeg] at F8
 refine zn F8 ?_ ?_<;>intro C22 F9
 refine zi (zd (zb (zl (zb (za ?_)))))
 refine s_mv ?_
 refine s_mv ?_
 obtain ⟨v23,V23,F10⟩:=zc F9
 refine zR rS V23 rfl yE89 ?_
 refine zu yA9 ?_
 obtain ⟨v24,V24,F11⟩:=zc F10
 refine zx [] (m_spec_l15Num_ok fu _ _ V24) ?_
 refine s_mv ?_
 refine zcp ?_
 refine zcp ?_
 refine s_as ?_
 refine s_as ?_
 refine zf (zd (zb (zb (za ?_))))
 refine s_mv ?_
 refine za3 ?_
 refine zf (zd ?_)
 refine zn F11 ?_ ?_<;>intro C25 F12
 refine zb (za ?_)
 refine s_mv ?_
 refine s_as ?_
 refine s_as ?_
 refine zf (zd (zh (zg (zj (zg (zw (zj (zg (zm ?_)))))))))
 cases F12
 exact zk [] [5080] Tryz.results176
 refine zi (zd (za ?_))
 refine s_mv ?_
 refine s_mv ?_
 refine s_bs rI [v24.1] yP27 yR3 ?_
 obtain ⟨hk26,F13⟩:=zat F12
 refine zfw rI (fun _=>rfl) hk26 yP27 ?_
 refine s_as ?_
 refine zf (zU (zd (za ?_)))
 refine s_mv ?_
 refine zH rfl ?_
 refine s_as ?_
 refine zf ?_
 exact s_rn (fu,(g16++[v24.1]),(w64 (g17+1))) ⟨by first | omega | (dsimp only;omega),F13⟩ [(5080,73)]
 refine zA (zq (zp (zr (zd (zb (za ?_))))))
 refine s_mv ?_
 refine s_mv ?_
 refine zH rfl ?_
 refine s_as ?_
 refine s_as ?_
 refine zf (zd (zh (zm ?_)))
 cases F9
 exact zk [] [5080] Tryz.results176
def m_spec_l1Atom_AC (fuel:Nat):Prop:=∀ (x1:ByteArray) (x2:Int) (r:(Form × Int)),zhZ fuel x1 x2=some r→AC Tryz.prog 165 [.t (.sc (.str x1)),.t (.sc (.int .i64 x2))] noOb (.tp [.ag [.t (.sc (.int .i64 r.1.kind)),.t (.sc (.str r.1.name)),.t (.sc (.int .i64 r.1.n)),.t (.sl (r.1.scopes.map rI)),.t (.sl (r.1.kids.map Form.row))],.t (.sc (.int .i64 r.2))]) noOb
theorem m_spec_l1Atom_ok (fuel:Nat):m_spec_l1Atom_AC fuel:=by
 intro x1 x2 r F0
 unfold zhZ at F0
 refine AC_i [.ag [.t (.sc (.int .i64 r.1.kind)),.t (.sc (.str r.1.name)),.t (.sc (.int .i64 r.1.n)),.t (.sl (r.1.scopes.map rI)),.t (.sl (r.1.kids.map Form.row))],.t (.sc (.int .i64 r.2))] Tryz.func165 rfl Tryz.ntmps165 ?_
 intro C hC
 refine zb (za ?_)
 refine z4 yZ32 ?_
 refine s_as ?_
 refine zf (zd (zb (za ?_)))
 refine s_mv ?_
 refine s_mv ?_
 obtain ⟨v1,V1,F1⟩:=zc F0
 refine zx [] (m_spec_l1Word_ok fuel _ _ _ V1) ?_
 refine s_as ?_
 refine zf (zd (zb (za ?_)))
 iterate 3 refine s_mv ?_
 obtain ⟨v2,V2,F2⟩:=zc F1
 refine s_ss11 V2 yU9 ?_
 refine s_as ?_
 refine zf (zd (zb (za ?_)))
 refine s_mv ?_
 obtain ⟨v3,V3,F3⟩:=zc F2
 refine zx [] (m_spec_l15Num_ok fuel _ _ V3) ?_
 refine s_mv ?_
 refine zcp ?_
 refine zcp ?_
 refine s_as ?_
 refine s_as ?_
 refine zf (zd (zb (zb (za ?_))))
 refine s_mv ?_
 refine zf (zd ?_)
 refine zn F3 ?_ ?_<;>intro C4 F4
 refine zb (za ?_)
 refine s_mv ?_
 refine zgQ yZ32 yL32 ?_
 refine s_mv ?_
 refine zal yS32 ?_
 refine s_as ?_
 refine zf (zd (zh (zg (zm ?_))))
 cases F4
 exact zag [] [] (by rw [Tryz.results165];exact (zaE (by conv=>lhs;whnf) (by conv=>lhs;whnf) yA32 yS32 rfl (zau (by conv=>lhs;whnf) zar)))
 refine zi (zd (zb (zb (za ?_))))
 refine s_mv ?_
 refine zhn ?_
 refine zf (zd ?_)
 refine zn F4 ?_ ?_<;>intro C5 F5
 refine zb (za ?_)
 refine zgQ yZ32 yL32 ?_
 refine zal yS32 ?_
 refine s_as ?_
 refine zf (zd (zh (zg (zm ?_))))
 cases F5
 exact zag [] [] (by rw [Tryz.results165];exact (zaE (by conv=>lhs;whnf) (by conv=>lhs;whnf) yA32 yS32 rfl (zau (by conv=>lhs;whnf) zar)))
 refine zi (zd (zb (za ?_)))
 refine s_mv ?_
 refine s_mv ?_
 obtain ⟨v6,V6,F6⟩:=zc F5
 refine zx [] (m_spec_l1Sets_ok fuel _ _ _ V6) ?_
 refine s_mv ?_
 refine zcp ?_
 refine zcp ?_
 refine s_as ?_
 refine s_as ?_
 refine zf (zd (zb (za ?_)))
 refine s_mv ?_
 refine s_mv ?_
 refine zgQ yZ32 yL32 ?_
 refine s_mv ?_
 refine zal yS32 ?_
 refine s_as ?_
 refine zf (zd (zh (zm ?_)))
 cases F6
 exact zag [] [] (by rw [Tryz.results165];exact (zaE (by conv=>lhs;whnf) (by conv=>lhs;whnf) yA32 yS32 rfl (zau (by conv=>lhs;whnf) zar)))
end Go.Abs
